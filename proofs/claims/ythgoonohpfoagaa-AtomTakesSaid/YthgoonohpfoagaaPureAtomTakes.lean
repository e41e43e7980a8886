/- The law AtomTakes over lists alone, and all that it leans on; no condition beyond the statement's own. -/
import Derived.Test.YthgoonohpfoagaaX0
import Derived.Test.YthgoonohpfoagaaX1
import Derived.Test.YthgoonohpfoagaaX8
import Derived.Test.YthgoonohpfoagaaX11
import Derived.Test.YthgoonohpfoagaaX14
import Derived.Test.YthgoonohpfoagaaX17
import Derived.Test.YthgoonohpfoagaaX24
import Derived.Test.YthgoonohpfoagaaX30
import Derived.Test.YthgoonohpfoagaaX40
import Derived.Test.YthgoonohpfoagaaX41
import Derived.Test.YthgoonohpfoagaaX46
import Derived.Test.YthgoonohpfoagaaX49
import Derived.Test.YthgoonohpfoagaaX50
import Derived.Lib.DecodeN
import Derived.Laws.BitsLemmas
namespace Go.Proofs.Ythgoonohpfoagaa.Pure
open Go.RowKit Go.Proofs.YthgoonohpfoagaaW.PrintWords Go.Proofs.YthgoonohpfoagaaW.PrintLast Go.Proofs.YthgoonohpfoagaaW.PrintMore Go.Proofs.Ythgoonohpfoagaa.X
set_option linter.unusedVariables false
theorem Ev.cond {α : Type} {c : Prop} [Decidable c] {f g : Nat → Option α} {r : α} (h : c) (k : Ev f r) : Ev (fun n => if c then f n else g n) r :=
  Ev.congr (fun _ => if_pos h) k
theorem Ev.ncond {α : Type} {c : Prop} [Decidable c] {f g : Nat → Option α} {r : α} (h : ¬ c) (k : Ev g r) : Ev (fun n => if c then f n else g n) r :=
  Ev.congr (fun _ => if_neg h) k
theorem Ev.ite {α : Type} {c : Prop} [Decidable c] {f g : Nat → Option α} {r : α} (h : c → Ev f r) (k : ¬ c → Ev g r) : Ev (fun n => if c then f n else g n) r := by
  by_cases hc : c
  · exact Ev.cond hc (h hc)
  · exact Ev.ncond hc (k hc)
theorem Ev.fin {α : Type} {r q : α} (h : r = q) : Ev (fun _ => Option.some r) q := h ▸ Ev.now r
theorem Ev.ret {α β : Type} {g : Option α} {a : α} {f : Nat → α → Option β} {r : β} (h : g = Option.some a) (k : Ev (fun n => f n a) r) : Ev (fun n => g.bind (f n)) r := by
  subst h; exact k
theorem w64 {x : Int} (h0 : -9223372036854775808 ≤ x) (h1 : x ≤ 9223372036854775807) : wrap64 x = x := by unfold wrap64; omega
theorem u64 {x : Int} (h0 : 0 ≤ x) (h1 : x < 18446744073709551616) : IntKind.u64.wrap x = x := by
  simp [IntKind.wrap, IntKind.bits, IntKind.signed]; omega
theorem zb5 (x : Int) : IntKind.u64.wrap x = x % 18446744073709551616 := by simp [IntKind.wrap, IntKind.bits, IntKind.signed]
theorem zab (l : List Int) (i : Nat) : rd l (i : Int) = l.getD i 0 := by simp [rd]
theorem zam {x : Int} (h : (Lit.int .i64 x).wf = true) : -9223372036854775808 ≤ x ∧ x ≤ 9223372036854775807 := by
  simp [Lit.wf, IntKind.min, IntKind.max, IntKind.signed, IntKind.bits] at h; omega
end Go.Proofs.Ythgoonohpfoagaa.Pure
namespace Go.Proofs.Ythgoonohpfoagaa.Pure
open Go.RowKit Go.Proofs.YthgoonohpfoagaaW.PrintWords Go.Proofs.YthgoonohpfoagaaW.PrintLast Go.Proofs.YthgoonohpfoagaaW.PrintMore Go.Proofs.Ythgoonohpfoagaa.X
theorem mn_le (s x y : Int) : s ≤ mn x y ↔ s ≤ x ∧ s ≤ y := by unfold mn; split <;> omega
theorem mx_lt (s x y : Int) : mx x y < s ↔ x < s ∧ y < s := by unfold mx; split <;> omega
theorem zba (p : Int → Prop) (a : List Int) {i : Nat} (h : i < a.length) : (∀ x ∈ a.drop i, p x) ↔ p (rd a (i : Int)) ∧ ∀ x ∈ a.drop (i + 1), p x := by
  rw [List.drop_eq_getElem_cons h, zab, List.getD_eq_getElem?_getD, List.getElem?_eq_getElem h]
  exact List.forall_mem_cons
theorem min_ev (a : List Int) (h1 : 1 ≤ a.length) (ha : a.length ≤ 9000000000000000000) : ∃ r, Ev (fun k => slices_Min_int_int.f k a) r ∧ ∀ s, s ≤ r ↔ ∀ x ∈ a, s ≤ x := by
  have key : ∀ (m i : Nat) (c : Int), i + m = a.length → ∃ r, Ev (fun k => slices_Min_int_int.l0 k a c (i : Int)) r ∧ ∀ s, s ≤ r ↔ s ≤ c ∧ ∀ x ∈ a.drop i, s ≤ x := by
    intro m
    induction m with
    | zero =>
      intro i c hi
      refine ⟨c, Ev.step (fun k => by rw [slices_Min_int_int.l0]) (Ev.ncond (by omega) (Ev.fin rfl)), fun s => ?_⟩
      rw [List.drop_eq_nil_of_le (by omega)]; simp
    | succ m ih =>
      intro i c hi
      obtain ⟨r, hr, hs⟩ := ih (i + 1) (mn c (rd a (i : Int))) (by omega)
      refine ⟨r, Ev.step (fun k => by rw [slices_Min_int_int.l0]) (Ev.cond (by omega) (Ev.cond (by omega) ?_)), fun s => ?_⟩
      · rw [w64 (by omega) (by omega)]; exact hr
      · rw [hs, mn_le, zba (fun x => s ≤ x) a (i := i) (by omega), and_assoc]
  obtain ⟨r, hr, hs⟩ := key (a.length - 1) 1 (rd a 0) (by omega)
  have hr' : Ev (fun k => slices_Min_int_int.l0 k a (rd a 0) 1) r := hr
  refine ⟨r, Ev.congr (fun k => by rw [slices_Min_int_int.f]) (Ev.ncond (by omega) (Ev.cond (by omega) hr')), fun s => ?_⟩
  rw [hs, show (∀ x ∈ a, s ≤ x) ↔ (∀ x ∈ a.drop 0, s ≤ x) by rw [List.drop_zero], zba (fun x => s ≤ x) a (i := 0) (by omega)]
  exact Iff.rfl
theorem max_ev (a : List Int) (h1 : 1 ≤ a.length) (ha : a.length ≤ 9000000000000000000) : ∃ r, Ev (fun k => slices_Max_int_int.f k a) r ∧ ∀ s, r < s ↔ ∀ x ∈ a, x < s := by
  have key : ∀ (m i : Nat) (c : Int), i + m = a.length → ∃ r, Ev (fun k => slices_Max_int_int.l0 k a c (i : Int)) r ∧ ∀ s, r < s ↔ c < s ∧ ∀ x ∈ a.drop i, x < s := by
    intro m
    induction m with
    | zero =>
      intro i c hi
      refine ⟨c, Ev.step (fun k => by rw [slices_Max_int_int.l0]) (Ev.ncond (by omega) (Ev.fin rfl)), fun s => ?_⟩
      rw [List.drop_eq_nil_of_le (by omega)]; simp
    | succ m ih =>
      intro i c hi
      obtain ⟨r, hr, hs⟩ := ih (i + 1) (mx c (rd a (i : Int))) (by omega)
      refine ⟨r, Ev.step (fun k => by rw [slices_Max_int_int.l0]) (Ev.cond (by omega) (Ev.cond (by omega) ?_)), fun s => ?_⟩
      · rw [w64 (by omega) (by omega)]; exact hr
      · rw [hs, mx_lt, zba (fun x => x < s) a (i := i) (by omega), and_assoc]
  obtain ⟨r, hr, hs⟩ := key (a.length - 1) 1 (rd a 0) (by omega)
  have hr' : Ev (fun k => slices_Max_int_int.l0 k a (rd a 0) 1) r := hr
  refine ⟨r, Ev.congr (fun k => by rw [slices_Max_int_int.f]) (Ev.ncond (by omega) (Ev.cond (by omega) hr')), fun s => ?_⟩
  rw [hs, show (∀ x ∈ a, x < s) ↔ (∀ x ∈ a.drop 0, x < s) by rw [List.drop_zero], zba (fun x => x < s) a (i := 0) (by omega)]
  exact Iff.rfl
def zee (l : List Int) : Prop := (∃ j, j ≤ 6 ∧ l.length = 2 ^ j) ∧ ∀ x ∈ l, 0 ≤ x
theorem pow6 {n : Nat} (h : n ≤ 6) : 2 ^ n ≤ 64 := by
  have := Nat.pow_le_pow_right (show 0 < 2 by omega) h
  omega
theorem zee.len {l : List Int} (h : zee l) : 1 ≤ l.length ∧ l.length ≤ 64 := by
  obtain ⟨⟨j, hj, e⟩, _⟩ := h
  have := pow6 hj
  have := Nat.two_pow_pos j
  omega
noncomputable instance decRow (l : List Int) : Decidable (zee l) := Classical.propDecidable _
end Go.Proofs.Ythgoonohpfoagaa.Pure
namespace Go.Proofs.Ythgoonohpfoagaa.Pure
open Go.RowKit Go.Proofs.YthgoonohpfoagaaW.PrintWords Go.Proofs.YthgoonohpfoagaaW.PrintLast Go.Proofs.YthgoonohpfoagaaW.PrintMore Go.Proofs.Ythgoonohpfoagaa.X
set_option linter.unusedVariables false
theorem zf0 : ∀ j : Fin 7, shl .i64 1 (j.1 : Int) = ((2 ^ j.1 : Nat) : Int) := by decide +kernel
end Go.Proofs.Ythgoonohpfoagaa.Pure
namespace Go.Proofs.Ythgoonohpfoagaa.Pure
open Go.RowKit Go.Proofs.YthgoonohpfoagaaW.PrintWords Go.Proofs.YthgoonohpfoagaaW.PrintLast Go.Proofs.YthgoonohpfoagaaW.PrintMore Go.Proofs.Ythgoonohpfoagaa.X
set_option linter.unusedVariables false
theorem zbc {α : Type} (d : α) (l : List α) {i : Nat} (h : i < l.length) : rdOf d l (i : Int) = l[i] := by
  simp [rdOf, List.getD_eq_getElem?_getD, h]
theorem zbf (l : List Int) {i : Nat} (h : i < l.length) : rd l (i : Int) = l[i] := by
  rw [zab, List.getD_eq_getElem?_getD, List.getElem?_eq_getElem h]; rfl
theorem zb6 (l : List (List Int)) {i : Nat} (h : i < l.length) : rd_L3 l (i : Int) = l[i] := by
  simp [rd_L3, List.getD_eq_getElem?_getD, h]
end Go.Proofs.Ythgoonohpfoagaa.Pure
namespace Go.Proofs.Ythgoonohpfoagaa.Pure
open Go.RowKit Go.Proofs.YthgoonohpfoagaaW.PrintWords Go.Proofs.YthgoonohpfoagaaW.PrintLast Go.Proofs.YthgoonohpfoagaaW.PrintMore Go.Proofs.Ythgoonohpfoagaa.X
set_option linter.unusedVariables false
def zad (r : Int) : Bool := decide ((65 ≤ r ∧ r ≤ 90) ∨ (97 ≤ r ∧ r ≤ 122) ∨ r = 95 ∨ (913 ≤ r ∧ r ≤ 929) ∨ (931 ≤ r ∧ r ≤ 937) ∨ (945 ≤ r ∧ r ≤ 969))
def za0 (r : Int) : Bool := zad r || decide ((48 ≤ r ∧ r ≤ 57) ∨ r = 8242 ∨ (8320 ≤ r ∧ r ≤ 8329))
theorem zcq (r : Int) (b : Bool) : Ev (fun k => glyph_Start.j3 k r b) (b || decide (945 ≤ r ∧ r ≤ 969)) := by
  cases b
  · refine Ev.step (fun k => by rw [glyph_Start.j3]) (Ev.ncond (by decide) (Ev.ite (fun h => Ev.ite (fun g => Ev.fin ?_) (fun g => Ev.fin ?_)) (fun h => Ev.fin ?_))) <;> simp <;> omega
  · rw [Bool.true_or]; exact Ev.step (fun k => by rw [glyph_Start.j3]) (Ev.cond rfl (Ev.fin rfl))
theorem zda (r : Int) (b : Bool) : Ev (fun k => glyph_Start.j2 k r b) (b || decide ((931 ≤ r ∧ r ≤ 937) ∨ (945 ≤ r ∧ r ≤ 969))) := by
  cases b
  · refine Ev.step (fun k => by rw [glyph_Start.j2]) (Ev.ncond (by decide) (Ev.ite (fun h => ?_) (fun h => ?_)))
    · have := zcq r (decide (r ≤ 937))
      rwa [show (decide (r ≤ 937) || decide (945 ≤ r ∧ r ≤ 969)) = (false || decide ((931 ≤ r ∧ r ≤ 937) ∨ (945 ≤ r ∧ r ≤ 969))) by rw [Bool.eq_iff_iff]; simp; omega] at this
    · have := zcq r false
      rwa [show (false || decide (945 ≤ r ∧ r ≤ 969)) = (false || decide ((931 ≤ r ∧ r ≤ 937) ∨ (945 ≤ r ∧ r ≤ 969))) by rw [Bool.eq_iff_iff]; simp; omega] at this
  · rw [Bool.true_or]; exact Ev.step (fun k => by rw [glyph_Start.j2]) (Ev.cond rfl (Ev.fin rfl))
theorem zbe (r : Int) (b : Bool) : Ev (fun k => glyph_Start.j1 k r b) (b || decide ((913 ≤ r ∧ r ≤ 929) ∨ (931 ≤ r ∧ r ≤ 937) ∨ (945 ≤ r ∧ r ≤ 969))) := by
  cases b
  · refine Ev.step (fun k => by rw [glyph_Start.j1]) (Ev.ncond (by decide) (Ev.ite (fun h => ?_) (fun h => ?_)))
    · have := zda r (decide (r ≤ 929))
      rwa [show (decide (r ≤ 929) || decide ((931 ≤ r ∧ r ≤ 937) ∨ (945 ≤ r ∧ r ≤ 969))) = (false || decide ((913 ≤ r ∧ r ≤ 929) ∨ (931 ≤ r ∧ r ≤ 937) ∨ (945 ≤ r ∧ r ≤ 969))) by rw [Bool.eq_iff_iff]; simp; omega] at this
    · have := zda r false
      rwa [show (false || decide ((931 ≤ r ∧ r ≤ 937) ∨ (945 ≤ r ∧ r ≤ 969))) = (false || decide ((913 ≤ r ∧ r ≤ 929) ∨ (931 ≤ r ∧ r ≤ 937) ∨ (945 ≤ r ∧ r ≤ 969))) by rw [Bool.eq_iff_iff]; simp; omega] at this
  · rw [Bool.true_or]; exact Ev.step (fun k => by rw [glyph_Start.j1]) (Ev.cond rfl (Ev.fin rfl))
theorem zc1 (r : Int) (b : Bool) : Ev (fun k => glyph_Start.j0 k r b) (b || decide ((97 ≤ r ∧ r ≤ 122) ∨ r = 95 ∨ (913 ≤ r ∧ r ≤ 929) ∨ (931 ≤ r ∧ r ≤ 937) ∨ (945 ≤ r ∧ r ≤ 969))) := by
  cases b
  · refine Ev.step (fun k => by rw [glyph_Start.j0]) (Ev.ncond (by decide) (Ev.ite (fun h => Ev.ite (fun g => ?_) (fun g => ?_)) (fun h => ?_)))
    · have := zbe r (decide (r ≤ 122))
      rwa [show (decide (r ≤ 122) || decide ((913 ≤ r ∧ r ≤ 929) ∨ (931 ≤ r ∧ r ≤ 937) ∨ (945 ≤ r ∧ r ≤ 969))) = (false || decide ((97 ≤ r ∧ r ≤ 122) ∨ r = 95 ∨ (913 ≤ r ∧ r ≤ 929) ∨ (931 ≤ r ∧ r ≤ 937) ∨ (945 ≤ r ∧ r ≤ 969))) by rw [Bool.eq_iff_iff]; simp; omega] at this
    · have := zbe r (r == 95)
      rwa [show ((r == 95) || decide ((913 ≤ r ∧ r ≤ 929) ∨ (931 ≤ r ∧ r ≤ 937) ∨ (945 ≤ r ∧ r ≤ 969))) = (false || decide ((97 ≤ r ∧ r ≤ 122) ∨ r = 95 ∨ (913 ≤ r ∧ r ≤ 929) ∨ (931 ≤ r ∧ r ≤ 937) ∨ (945 ≤ r ∧ r ≤ 969))) by rw [Bool.eq_iff_iff]; simp; omega] at this
    · have := zbe r (r == 95)
      rwa [show ((r == 95) || decide ((913 ≤ r ∧ r ≤ 929) ∨ (931 ≤ r ∧ r ≤ 937) ∨ (945 ≤ r ∧ r ≤ 969))) = (false || decide ((97 ≤ r ∧ r ≤ 122) ∨ r = 95 ∨ (913 ≤ r ∧ r ≤ 929) ∨ (931 ≤ r ∧ r ≤ 937) ∨ (945 ≤ r ∧ r ≤ 969))) by rw [Bool.eq_iff_iff]; simp; omega] at this
  · have := zbe r true
    exact Ev.step (fun k => by rw [glyph_Start.j0]) (Ev.cond rfl this)
theorem zde (r : Int) : Ev (fun k => glyph_Start.f k r) (zad r) := by
  refine Ev.congr (fun k => by rw [glyph_Start.f]) (Ev.ite (fun h => ?_) (fun h => ?_))
  · have := zc1 r (decide (r ≤ 90))
    rwa [show (decide (r ≤ 90) || decide ((97 ≤ r ∧ r ≤ 122) ∨ r = 95 ∨ (913 ≤ r ∧ r ≤ 929) ∨ (931 ≤ r ∧ r ≤ 937) ∨ (945 ≤ r ∧ r ≤ 969))) = zad r by rw [zad, Bool.eq_iff_iff]; simp; omega] at this
  · have := zc1 r false
    rwa [show (false || decide ((97 ≤ r ∧ r ≤ 122) ∨ r = 95 ∨ (913 ≤ r ∧ r ≤ 929) ∨ (931 ≤ r ∧ r ≤ 937) ∨ (945 ≤ r ∧ r ≤ 969))) = zad r by rw [zad, Bool.eq_iff_iff]; simp; omega] at this
theorem zgd (r : Int) : Ev (fun k => glyph_Rest.f k r) (za0 r) := by
  refine Ev.congr (fun k => by rw [glyph_Rest.f]) (Ev.bind (zde r) ?_)
  rw [za0]
  cases zad r
  · refine Ev.ncond (by decide) (Ev.ite (fun h => Ev.ite (fun g => Ev.fin ?_) (fun g => Ev.ite (fun z => Ev.fin ?_) (fun z => Ev.ite (fun y => Ev.fin ?_) (fun y => Ev.fin ?_)))) (fun h => Ev.ite (fun z => Ev.fin ?_) (fun z => Ev.ite (fun y => Ev.fin ?_) (fun y => Ev.fin ?_)))) <;> rw [Bool.false_or, Bool.eq_iff_iff] <;> simp <;> omega
  · exact Ev.cond rfl (Ev.fin rfl)
def resB (s : ByteArray) : Bool := decide (s.toList ∈ [[97, 110, 100], [111, 114], [110, 111, 116], [101, 120], [97, 108, 108], [109, 111, 100], [116, 114, 117, 101], [102, 97, 108, 115, 101]])
theorem res_eq (s : ByteArray) : glyph_Reserved.f s = some (resB s) := by
  unfold glyph_Reserved.f resB
  simp only [List.mem_cons, List.not_mem_nil, or_false]
  repeat' split
  all_goals simp_all
theorem zcd (s : ByteArray) (pos : Nat) (h : pos < s.size) : 1 ≤ (Utf8.decode s pos).2 := by
  by_cases ha : (s[pos]'h).toNat < 128
  · rw [decode_ascii s pos h ha]
    exact Nat.le_refl _
  · exact (decode_high s pos h (by omega)).2
def zaz : Nat → ByteArray → Nat → Nat → Bool
  | 0, s, _, n => decide (1 ≤ n ∧ n ≤ 16) && !resB s
  | m + 1, s, p, n =>
    if p < s.size then (if (n = 0 → zad ((Utf8.decode s p).1 : Int) = true) ∧ za0 ((Utf8.decode s p).1 : Int) = true then zaz m s (p + (Utf8.decode s p).2) (n + 1) else false)
    else decide (1 ≤ n ∧ n ≤ 16) && !resB s
def zed (s : ByteArray) : Bool := zaz s.size s 0 0
theorem zct (s : ByteArray) (n : Nat) : Ev (fun k => if (n : Int) > 0 then (if (n : Int) ≤ 16 then (glyph_Reserved.f s).bind fun t => some (!t) else some false) else some false) (decide (1 ≤ n ∧ n ≤ 16) && !resB s) := by
  by_cases h1 : 1 ≤ n
  · by_cases h2 : n ≤ 16
    · refine Ev.cond (by omega) (Ev.cond (by omega) ?_)
      rw [decide_eq_true ⟨h1, h2⟩, Bool.true_and]
      exact Ev.ret (res_eq s) (Ev.fin rfl)
    · rw [decide_eq_false (fun e => h2 e.2)]
      exact Ev.cond (by omega) (Ev.ncond (by omega) (Ev.fin rfl))
  · rw [decide_eq_false (fun e => h1 e.1)]
    exact Ev.ncond (by omega) (Ev.fin rfl)
theorem zgn (s : ByteArray) (hs : s.size ≤ 9223372036854775807) : Ev (fun k => glyph_Name.f k s) (zed s) := by
  have key : ∀ (m p n : Nat), s.size ≤ p + m → n ≤ p → (p = 0 ↔ n = 0) → Ev (fun k => glyph_Name.l0 k s p (n : Int)) (zaz m s p n) := by
    intro m
    induction m with
    | zero =>
      intro p n hp hn _
      exact Ev.step (fun k => by rw [glyph_Name.l0]) (Ev.ncond (by omega) (zct s n))
    | succ m ih =>
      intro p n hp hn hz
      rw [zaz]
      by_cases c : p < s.size
      · rw [if_pos c]
        have hw := zcd s p c
        refine Ev.step (fun k => by rw [glyph_Name.l0]) (Ev.cond c ?_)
        have st : Ev (fun k => if p = 0 then glyph_Start.f k ((Utf8.decode s p).1 : Int) else some true) (decide (n = 0 → zad ((Utf8.decode s p).1 : Int) = true)) := by
          refine Ev.ite (fun h => ?_) (fun h => Ev.fin ?_)
          · have n0 := hz.1 h
            rw [show decide (n = 0 → zad ((Utf8.decode s p).1 : Int) = true) = zad ((Utf8.decode s p).1 : Int) by rw [Bool.eq_iff_iff]; simp [n0]]
            exact zde _
          · have n0 : ¬ n = 0 := fun e => h (hz.2 e)
            exact (decide_eq_true (fun e => absurd e n0)).symm
        refine Ev.bind st (Ev.ite (fun h => Ev.bind (zgd _) (Ev.ite (fun g => ?_) (fun g => Ev.fin ?_))) (fun h => Ev.fin ?_))
        · rw [if_pos ⟨of_decide_eq_true h, g⟩, w64 (by omega) (by omega)]
          exact ih (p + (Utf8.decode s p).2) (n + 1) (by omega) (by omega) (by omega)
        · rw [if_neg (fun e => g e.2)]
        · rw [if_neg (fun e => h (decide_eq_true e.1))]
      · rw [if_neg c]
        exact Ev.step (fun k => by rw [glyph_Name.l0]) (Ev.ncond c (zct s n))
  exact key s.size 0 0 (by omega) (by omega) (by omega)
def za8 (ns : List ByteArray) : Nat → Nat → Bool
  | 0, _ => true
  | m + 1, i => zed (rdOf ByteArray.empty ns (i : Int)) && ((decide (i = 0) || Op.bytesLess (rdOf ByteArray.empty ns ((i - 1 : Nat) : Int)).toList (rdOf ByteArray.empty ns (i : Int)).toList) && za8 ns m (i + 1))
def za4 (ns : List ByteArray) : Bool := za8 ns ns.length 0
theorem zc3 (ns : List ByteArray) (hn : ns.length ≤ 9000000000000000000) (hs : ∀ x ∈ ns, x.size ≤ 9223372036854775807) : Ev (fun k => glyph_Rises.f k ns) (za4 ns) := by
  refine Ev.congr (fun k => by rw [glyph_Rises.f]) ?_
  have key : ∀ (m i : Nat), i + m = ns.length → Ev (fun k => glyph_Rises.l0 k ns ns (ns.length : Int) (i : Int)) (za8 ns m i) := by
    intro m
    induction m with
    | zero =>
      intro i hi
      refine Ev.step (fun k => by rw [glyph_Rises.l0]) (Ev.ncond (by omega) ?_)
      exact Ev.fin rfl
    | succ m ih =>
      intro i hi
      rw [za8]
      have sz : (rdOf ByteArray.empty ns (i : Int)).size ≤ 9223372036854775807 := by rw [zbc _ ns (show i < ns.length by omega)]; exact hs _ (List.getElem_mem _)
      refine Ev.step (fun k => by rw [glyph_Rises.l0]) (Ev.cond (by omega) (Ev.cond (by omega) (Ev.cond (by omega) (Ev.bind (zgn _ sz) ?_))))
      refine Ev.ite (fun a => ?_) (fun a => Ev.fin ?_)
      · rw [a, Bool.true_and]
        have nx := ih (i + 1) (by omega)
        refine Ev.ite (fun b => ?_) (fun b => ?_)
        · rw [w64 (x := (i : Int) - 1) (by omega) (by omega), w64 (x := (i : Int) + 1) (by omega) (by omega), show (i : Int) - 1 = ((i - 1 : Nat) : Int) by omega, decide_eq_false (show ¬ i = 0 by omega), Bool.false_or]
          refine Ev.cond (by omega) (Ev.cond (by omega) (Ev.ite (fun c => ?_) (fun c => Ev.fin ?_)))
          · rw [c, Bool.true_and]; exact nx
          · rw [Bool.not_eq_true] at c; rw [c, Bool.false_and]
        · rw [decide_eq_true (show i = 0 by omega), Bool.true_or, Bool.true_and, w64 (by omega) (by omega)]
          exact nx
      · rw [Bool.not_eq_true] at a; rw [a, Bool.false_and]
  exact key ns.length 0 (by omega)
end Go.Proofs.Ythgoonohpfoagaa.Pure
namespace Go.Proofs.Ythgoonohpfoagaa.Pure
open Go.RowKit Go.Proofs.YthgoonohpfoagaaW.PrintWords Go.Proofs.YthgoonohpfoagaaW.PrintLast Go.Proofs.YthgoonohpfoagaaW.PrintMore Go.Proofs.Ythgoonohpfoagaa.X
set_option linter.unusedVariables false
section
variable {a : List Int} {j : Nat}
end
def SZ (ns : List ByteArray) : Prop := ∀ x ∈ ns, x.size ≤ 9223372036854775807
def RZ (nx : List (List Int)) : Prop := ∀ r ∈ nx, r.length ≤ 9000000000000000000
structure Fr (ns : List ByteArray) (n : Nat) : Prop where
  tr : ns.length ≤ 6
  n1 : 1 ≤ n
  n2 : n ≤ 256
  ri : za4 ns = true
section
variable {ns : List ByteArray} {n : Nat}
theorem zd4 (hs : SZ ns) (f : Fr ns n) : Ev (fun k => table_tracks.f k ns (n : Int)) true := by
  have := f.tr; have := f.n1; have := f.n2
  refine Ev.congr (fun k => by rw [table_tracks.f]) (Ev.cond (by omega) (Ev.cond (by omega) (Ev.cond (by omega) (Ev.bind (zc3 ns (by omega) hs) (Ev.fin f.ri)))))
theorem ze1 {r : List Int} {n e : Int} {j : Nat} {f : Nat → Option Int} (hr : r.length ≤ 9000000000000000000) (hnext : (r.length = 2 ^ j ∧ ∀ x ∈ r, 0 ≤ x ∧ x < n) → Ev f e) (hbad : ¬ (r.length = 2 ^ j ∧ ∀ x ∈ r, 0 ≤ x ∧ x < n) → e = 3) :
    Ev (fun k => if (r.length : Int) = ((2 ^ j : Nat) : Int) then ((slices_Min_int_int.f k r).bind fun t113 => (if t113 < 0 then (some 3) else ((slices_Max_int_int.f k r).bind fun t114 => (if t114 ≥ n then (some 3) else f k)))) else (some 3)) e := by
  refine Ev.ite (fun a => ?_) (fun a => Ev.fin (hbad (fun h => a (by rw [h.1]))).symm)
  have al : r.length = 2 ^ j := by omega
  have h1 : 1 ≤ r.length := by have := Nat.two_pow_pos j; omega
  obtain ⟨x, hx, hxs⟩ := min_ev r h1 hr
  obtain ⟨y, hy, hys⟩ := max_ev r h1 hr
  refine Ev.bind hx (Ev.ite (fun b => Ev.fin (hbad (fun h => ?_)).symm) (fun b => Ev.bind hy (Ev.ite (fun c => Ev.fin (hbad (fun h => ?_)).symm) (fun c => hnext ⟨al, fun z hz => ⟨(hxs 0).1 (by omega) z hz, (hys n).1 (by omega) z hz⟩⟩))))
  · have := (hxs 0).2 (fun z hz => (h.2 z hz).1); omega
  · have := (hys n).2 (fun z hz => (h.2 z hz).2); omega
structure DOk (ns : List ByteArray) (ac : List Bool) (nx : List (List Int)) : Prop where
  fr : Fr ns ac.length
  ln : nx.length = ac.length
  rows : ∀ r ∈ nx, r.length = 2 ^ ns.length ∧ ∀ x ∈ r, 0 ≤ x ∧ x < (ac.length : Int)
theorem shl_tr {ns : List ByteArray} (h : ns.length ≤ 6) : shl .i64 1 (ns.length : Int) = ((2 ^ ns.length : Nat) : Int) := zf0 ⟨ns.length, by omega⟩
variable {ac : List Bool} {nx : List (List Int)}
theorem zfl (hs : SZ ns) (hr : RZ nx) (d : DOk ns ac nx) : Ev (fun k => table_Right.f k ns ac nx) 0 := by
  have n2 := d.fr.n2
  have ln := d.ln
  refine Ev.congr (fun k => by rw [table_Right.f]) (Ev.bind (zd4 hs d.fr) (Ev.cond rfl ?_))
  rw [show ((nx.length : Int) != (ac.length : Int)) = false by simp [d.ln]]
  refine Ev.step (fun k => by rw [table_Right.j0]) (Ev.ncond (by decide) ?_)
  have key : ∀ (m i : Nat), i + m = nx.length → Ev (fun k => table_Right.l0 k (ac.length : Int) nx (nx.length : Int) (i : Int) ns ac nx) 0 := by
    intro m
    induction m with
    | zero => intro i hi; exact Ev.step (fun k => by rw [table_Right.l0]) (Ev.ncond (by omega) (Ev.fin rfl))
    | succ m ih =>
      intro i hi
      refine Ev.step (fun k => by rw [table_Right.l0]) (Ev.cond (by omega) (Ev.cond (by omega) (Ev.cond (by omega) ?_)))
      rw [zb6 nx (show i < nx.length by omega), shl_tr d.fr.tr, w64 (by omega) (by omega)]
      have mem : nx[i]'(by omega) ∈ nx := List.getElem_mem _
      exact ze1 (hr _ mem) (fun _ => ih (i + 1) (by omega)) (fun h => absurd (d.rows _ mem) h)
  exact key nx.length 0 (by omega)
end
section
variable {ns : List ByteArray} {ac : List Bool} {nx : List (List Int)}
end
end Go.Proofs.Ythgoonohpfoagaa.Pure
namespace Go.Proofs.Ythgoonohpfoagaa.Pure
open Go.RowKit Go.Proofs.YthgoonohpfoagaaW.PrintWords Go.Proofs.YthgoonohpfoagaaW.PrintLast Go.Proofs.YthgoonohpfoagaaW.PrintMore Go.Proofs.Ythgoonohpfoagaa.X
set_option linter.unusedVariables false
def za6 (r : Int) : List Int → Bool
  | a :: b :: t => decide (a ≤ r ∧ r ≤ b) || za6 r t
  | _ => false
theorem zey (r : Int) (l : List Int) (hl : l.length ≤ 1000) : ∀ (m i : Nat), i + 2 * m = l.length → Ev (fun k => tabardref04_within.l0 k r l (i : Int)) (za6 r (l.drop i)) := by
  intro m
  induction m with
  | zero =>
    intro i hi
    rw [List.drop_eq_nil_of_le (by omega)]
    refine Ev.step (fun k => by rw [tabardref04_within.l0]) (Ev.ncond (by rw [w64 (by omega) (by omega)]; omega) ?_)
    exact Ev.fin rfl
  | succ m ih =>
    intro i hi
    have h1 : i < l.length := by omega
    have h2 : i + 1 < l.length := by omega
    have q := ih (i + 2) (by omega)
    rw [List.drop_eq_getElem_cons h1, List.drop_eq_getElem_cons h2, za6]
    refine Ev.step (fun k => by rw [tabardref04_within.l0]) ?_
    rw [w64 (x := (i : Int) + 1) (by omega) (by omega), w64 (x := (i : Int) + 2) (by omega) (by omega), show (i : Int) + 1 = ((i + 1 : Nat) : Int) by omega, zbf l h1, zbf l h2]
    refine Ev.cond (by omega) (Ev.cond (by omega) (Ev.cond (by omega) (Ev.ite (fun a => Ev.cond (by omega) (Ev.ite (fun b => Ev.fin ?_) (fun b => ?_))) (fun a => ?_))))
    · rw [decide_eq_true (show l[i] ≤ r ∧ r ≤ l[i + 1] from ⟨a, b⟩), Bool.true_or]
    · rw [decide_eq_false (show ¬ (l[i] ≤ r ∧ r ≤ l[i + 1]) from fun z => b z.2), Bool.false_or]; exact q
    · rw [decide_eq_false (show ¬ (l[i] ≤ r ∧ r ≤ l[i + 1]) from fun z => a z.1), Bool.false_or]; exact q
theorem zcx (r : Int) (l : List Int) (m : Nat) (hl : l.length ≤ 1000) (hm : 0 + 2 * m = l.length) : Ev (fun k => tabardref04_within.f k r l) (za6 r l) := by
  have := zey r l hl m 0 hm
  rw [List.drop_zero] at this
  exact Ev.congr (fun k => by rw [tabardref04_within.f]; rfl) this
theorem zcc (r : Int) : Ev (fun k => tabardref04_Start.f k r) (zad r) := by
  refine Ev.congr (fun k => by rw [tabardref04_Start.f]) (Ev.bind (zcx r [65, 90, 97, 122, 95, 95, 913, 929, 931, 937, 945, 969] 6 (by decide) (by decide)) (Ev.fin ?_))
  simp only [za6, zad]
  rw [Bool.eq_iff_iff]; simp; omega
theorem zfd (r : Int) : Ev (fun k => tabardref04_Rest.f k r) (za0 r) := by
  refine Ev.congr (fun k => by rw [tabardref04_Rest.f]) (Ev.bind (zcc r) ?_)
  rw [za0]
  cases zad r
  · refine Ev.ncond (by decide) (Ev.bind (zcx r [48, 57, 8242, 8242, 8320, 8329] 3 (by decide) (by decide)) (Ev.fin ?_))
    simp only [za6]
    rw [Bool.eq_iff_iff]; simp; omega
  · exact Ev.cond rfl (Ev.fin rfl)
theorem zge (s : ByteArray) : Ev (fun k => tabardref04_Reserved.f k s) (resB s) := by
  refine Ev.congr (fun k => by rw [tabardref04_Reserved.f]) ?_
  have key : ∀ (L : List ByteArray) (hL : L.length ≤ 100) (m i : Nat), i + m = L.length → Ev (fun k => tabardref04_Reserved.l0 k s L (i : Int)) (decide (∃ x ∈ L.drop i, x.toList = s.toList)) := by
    intro L hL m
    induction m with
    | zero =>
      intro i hi
      rw [List.drop_eq_nil_of_le (by omega)]
      refine Ev.step (fun k => by rw [tabardref04_Reserved.l0]) (Ev.ncond (by omega) (Ev.fin ?_))
      simp
    | succ m ih =>
      intro i hi
      have h1 : i < L.length := by omega
      rw [List.drop_eq_getElem_cons h1]
      refine Ev.step (fun k => by rw [tabardref04_Reserved.l0]) (Ev.cond (by omega) (Ev.cond (by omega) ?_))
      rw [zbc _ L h1, w64 (by omega) (by omega)]
      refine Ev.ite (fun c => Ev.fin ?_) (fun c => ?_)
      · exact (decide_eq_true ⟨_, List.mem_cons_self .., c⟩).symm
      · have q := ih (i + 1) (by omega)
        rw [decide_eq_decide.2 (show (∃ x ∈ L[i] :: L.drop (i + 1), x.toList = s.toList) ↔ (∃ x ∈ L.drop (i + 1), x.toList = s.toList) from ⟨fun ⟨x, hx, e⟩ => by
          rcases List.mem_cons.1 hx with rfl | h
          · exact absurd e c
          · exact ⟨x, h, e⟩, fun ⟨x, hx, e⟩ => ⟨x, List.mem_cons_of_mem _ hx, e⟩⟩)]
        exact q
  have := key ([(⟨#[97, 110, 100]⟩ : ByteArray), (⟨#[111, 114]⟩ : ByteArray), (⟨#[110, 111, 116]⟩ : ByteArray), (⟨#[101, 120]⟩ : ByteArray), (⟨#[97, 108, 108]⟩ : ByteArray), (⟨#[109, 111, 100]⟩ : ByteArray), (⟨#[116, 114, 117, 101]⟩ : ByteArray), (⟨#[102, 97, 108, 115, 101]⟩ : ByteArray)] : List ByteArray) (by simp) 8 0 (by simp)
  rw [show resB s = decide (∃ x ∈ List.drop 0 ([(⟨#[97, 110, 100]⟩ : ByteArray), (⟨#[111, 114]⟩ : ByteArray), (⟨#[110, 111, 116]⟩ : ByteArray), (⟨#[101, 120]⟩ : ByteArray), (⟨#[97, 108, 108]⟩ : ByteArray), (⟨#[109, 111, 100]⟩ : ByteArray), (⟨#[116, 114, 117, 101]⟩ : ByteArray), (⟨#[102, 97, 108, 115, 101]⟩ : ByteArray)] : List ByteArray), x.toList = s.toList) from by
    rw [resB]
    apply decide_eq_decide.2
    simp only [List.drop_zero, List.mem_cons, List.not_mem_nil, or_false, exists_eq_or_imp, exists_eq_left, ByteArray.toList_eq]
    simp only [eq_comm]]
  exact this
end Go.Proofs.Ythgoonohpfoagaa.Pure
namespace Go.Proofs.Ythgoonohpfoagaa.Pure
open Go.RowKit Go.Proofs.YthgoonohpfoagaaW.PrintWords Go.Proofs.YthgoonohpfoagaaW.PrintLast Go.Proofs.YthgoonohpfoagaaW.PrintMore Go.Proofs.Ythgoonohpfoagaa.X
set_option linter.unusedVariables false
theorem zes (s : ByteArray) {q : Nat} (h : q < s.size) : bt s (q : Int) = ((s.get! q).toNat : Int) := by
  have e := bt_at s (q : Int) (by simpa using h)
  rw [← e]
  simp only [Int.toNat_natCast]
  rw [← get_at s q h]; rfl
theorem zaf (s : ByteArray) (q : Nat) : (s.get! q).toNat < 256 := (s.get! q).toNat_lt
def Fits (d : Nat × Nat) (r : Int × Int × Bool) : Prop := (r.2.2 = true ∧ r.1 = (d.1 : Int) ∧ r.2.1 = (d.2 : Int)) ∨ (r.2.2 = false ∧ d = (65533, 1))
section
variable {s : ByteArray} {p : Nat}
theorem zbs {X w L : Int} {i : Int} (hi : ¬ i < w) : ∃ r, Ev (fun k => tabardref04_Read.l0 k s (p : Int) X w L i) r ∧ ((r = (X, w, true) ∧ L ≤ X ∧ X ≤ 1114111 ∧ ¬ (55296 ≤ X ∧ X ≤ 57343)) ∨ (r = (65533, 1, false) ∧ ¬ (L ≤ X ∧ X ≤ 1114111 ∧ ¬ (55296 ≤ X ∧ X ≤ 57343)))) := by
  by_cases h1 : X < L
  · exact ⟨_, Ev.step (fun k => by rw [tabardref04_Read.l0]) (Ev.ncond hi (Ev.cond h1 (Ev.fin rfl))), Or.inr ⟨rfl, by omega⟩⟩
  by_cases h2 : X > 1114111
  · exact ⟨_, Ev.step (fun k => by rw [tabardref04_Read.l0]) (Ev.ncond hi (Ev.ncond h1 (Ev.cond h2 (Ev.fin rfl)))), Or.inr ⟨rfl, by omega⟩⟩
  by_cases h3 : X ≥ 55296
  · by_cases h4 : X ≤ 57343
    · exact ⟨_, Ev.step (fun k => by rw [tabardref04_Read.l0]) (Ev.ncond hi (Ev.ncond h1 (Ev.ncond h2 (Ev.cond h3 (Ev.cond h4 (Ev.fin rfl)))))), Or.inr ⟨rfl, by omega⟩⟩
    · exact ⟨_, Ev.step (fun k => by rw [tabardref04_Read.l0]) (Ev.ncond hi (Ev.ncond h1 (Ev.ncond h2 (Ev.cond h3 (Ev.ncond h4 (Ev.fin rfl)))))), Or.inl ⟨rfl, by omega⟩⟩
  · exact ⟨_, Ev.step (fun k => by rw [tabardref04_Read.l0]) (Ev.ncond hi (Ev.ncond h1 (Ev.ncond h2 (Ev.ncond h3 (Ev.fin rfl))))), Or.inl ⟨rfl, by omega⟩⟩
theorem zak (hs : s.size ≤ 9223372036854775807) {X w L : Int} {i : Nat} (hi : (i : Int) < w) (hX : 0 ≤ X) (hX2 : X ≤ 20000000) (h : p + i < s.size) :
    (¬ (128 ≤ (s.get! (p + i)).toNat ∧ (s.get! (p + i)).toNat ≤ 191) ∧ Ev (fun k => tabardref04_Read.l0 k s (p : Int) X w L (i : Int)) (65533, 1, false)) ∨
    ((128 ≤ (s.get! (p + i)).toNat ∧ (s.get! (p + i)).toNat ≤ 191) ∧ ∀ r, Ev (fun k => tabardref04_Read.l0 k s (p : Int) (X * 64 + ((s.get! (p + i)).toNat : Int) - 128) w L ((i + 1 : Nat) : Int)) r → Ev (fun k => tabardref04_Read.l0 k s (p : Int) X w L (i : Int)) r) := by
  have b := zaf s (p + i)
  have e : wrap64 ((p : Int) + (i : Int)) = ((p + i : Nat) : Int) := by rw [w64 (by omega) (by omega)]; omega
  have e2 : wrap64 (bt s ((p + i : Nat) : Int)) = ((s.get! (p + i)).toNat : Int) := by rw [zes s h, w64 (by omega) (by omega)]
  by_cases h1 : (s.get! (p + i)).toNat < 128
  · refine Or.inl ⟨by omega, Ev.step (fun k => by rw [tabardref04_Read.l0]) (Ev.cond hi ?_)⟩
    rw [e, e2]
    exact Ev.cond (by omega) (Ev.cond (by omega) (Ev.cond (by omega) (Ev.fin rfl)))
  by_cases h2 : (s.get! (p + i)).toNat > 191
  · refine Or.inl ⟨by omega, Ev.step (fun k => by rw [tabardref04_Read.l0]) (Ev.cond hi ?_)⟩
    rw [e, e2]
    exact Ev.cond (by omega) (Ev.cond (by omega) (Ev.ncond (by omega) (Ev.cond (by omega) (Ev.fin rfl))))
  · refine Or.inr ⟨by omega, fun r hr => Ev.step (fun k => by rw [tabardref04_Read.l0]) (Ev.cond hi ?_)⟩
    rw [e, e2, w64 (x := X * 64) (by omega) (by omega), w64 (x := X * 64 + ((s.get! (p + i)).toNat : Int)) (by omega) (by omega), w64 (x := X * 64 + ((s.get! (p + i)).toNat : Int) - 128) (by omega) (by omega), w64 (x := (i : Int) + 1) (by omega) (by omega)]
    exact Ev.cond (by omega) (Ev.cond (by omega) (Ev.ncond (by omega) (Ev.ncond (by omega) hr)))
theorem zf5 (hs : s.size ≤ 9223372036854775807) (hp : p < s.size) (h0 : 194 ≤ (s.get! p).toNat ∧ (s.get! p).toNat < 224) :
    ∃ r, Ev (fun k => tabardref04_Read.j2 k s (p : Int) (((s.get! p).toNat : Int) - 192) 2 128) r ∧ Fits (Go.Lib.decodeN (s.size - p) (s.get! p).toNat (s.get! (p + 1)).toNat (s.get! (p + 2)).toNat (s.get! (p + 3)).toNat) r := by
  have g1 := zaf s (p + 1); have g2 := zaf s (p + 2); have g3 := zaf s (p + 3)
  by_cases c : s.size - p < 2
  · refine ⟨_, Ev.step (fun k => by rw [tabardref04_Read.j2]) (Ev.cond (by rw [w64 (by omega) (by omega)]; omega) (Ev.fin rfl)), Or.inr ⟨rfl, ?_⟩⟩
    unfold Go.Lib.decodeN; repeat' split
    all_goals first | (exfalso; omega) | rfl
  · have go : ∀ r, Ev (fun k => tabardref04_Read.l0 k s (p : Int) (((s.get! p).toNat : Int) - 192) 2 128 1) r → Ev (fun k => tabardref04_Read.j2 k s (p : Int) (((s.get! p).toNat : Int) - 192) 2 128) r :=
      by
        intro r h
        refine Ev.step (fun k => by rw [tabardref04_Read.j2]) (Ev.ncond ?_ h)
        rw [w64 (by omega) (by omega)]; omega
    rcases zak (X := ((s.get! p).toNat : Int) - 192) (w := 2) (L := 128) (i := 1) hs (by omega) (by omega) (by omega) (show p + 1 < s.size by omega) with ⟨bad, e⟩ | ⟨ok1, k1⟩
    · refine ⟨_, go _ e, Or.inr ⟨rfl, ?_⟩⟩
      unfold Go.Lib.decodeN; repeat' split
      all_goals first | (exfalso; omega) | rfl
    · obtain ⟨r, hr, hc⟩ := zbs (s := s) (p := p) (X := (((s.get! p).toNat : Int) - 192) * 64 + ((s.get! (p + 1)).toNat : Int) - 128) (w := 2) (L := 128) (i := ((1 + 1 : Nat) : Int)) (by omega)
      refine ⟨r, go _ (k1 r hr), ?_⟩
      rcases hc with ⟨rfl, hc⟩ | ⟨rfl, hc⟩
      · have d : Go.Lib.decodeN (s.size - p) (s.get! p).toNat (s.get! (p + 1)).toNat (s.get! (p + 2)).toNat (s.get! (p + 3)).toNat = ((s.get! p).toNat % 32 * 64 + (s.get! (p + 1)).toNat % 64, 2) := by
          unfold Go.Lib.decodeN; repeat' split
          all_goals first | (exfalso; omega) | rfl
        rw [d]; exact Or.inl ⟨rfl, by simp only []; omega, rfl⟩
      · refine Or.inr ⟨rfl, ?_⟩
        unfold Go.Lib.decodeN; repeat' split
        all_goals first | (exfalso; omega) | rfl
theorem zf3 (hs : s.size ≤ 9223372036854775807) (hp : p < s.size) (h0 : 224 ≤ (s.get! p).toNat ∧ (s.get! p).toNat < 240) :
    ∃ r, Ev (fun k => tabardref04_Read.j2 k s (p : Int) (((s.get! p).toNat : Int) - 224) 3 2048) r ∧ Fits (Go.Lib.decodeN (s.size - p) (s.get! p).toNat (s.get! (p + 1)).toNat (s.get! (p + 2)).toNat (s.get! (p + 3)).toNat) r := by
  have g1 := zaf s (p + 1); have g2 := zaf s (p + 2); have g3 := zaf s (p + 3)
  by_cases c : s.size - p < 3
  · refine ⟨_, Ev.step (fun k => by rw [tabardref04_Read.j2]) (Ev.cond (by rw [w64 (by omega) (by omega)]; omega) (Ev.fin rfl)), Or.inr ⟨rfl, ?_⟩⟩
    unfold Go.Lib.decodeN; repeat' split
    all_goals first | (exfalso; omega) | rfl
  · have go : ∀ r, Ev (fun k => tabardref04_Read.l0 k s (p : Int) (((s.get! p).toNat : Int) - 224) 3 2048 1) r → Ev (fun k => tabardref04_Read.j2 k s (p : Int) (((s.get! p).toNat : Int) - 224) 3 2048) r :=
      by
        intro r h
        refine Ev.step (fun k => by rw [tabardref04_Read.j2]) (Ev.ncond ?_ h)
        rw [w64 (by omega) (by omega)]; omega
    rcases zak (X := ((s.get! p).toNat : Int) - 224) (w := 3) (L := 2048) (i := 1) hs (by omega) (by omega) (by omega) (show p + 1 < s.size by omega) with ⟨bad, e⟩ | ⟨ok1, k1⟩
    · refine ⟨_, go _ e, Or.inr ⟨rfl, ?_⟩⟩
      unfold Go.Lib.decodeN; repeat' split
      all_goals first | (exfalso; omega) | rfl
    rcases zak (X := (((s.get! p).toNat : Int) - 224) * 64 + ((s.get! (p + 1)).toNat : Int) - 128) (w := 3) (L := 2048) (i := 2) hs (by omega) (by omega) (by omega) (show p + 2 < s.size by omega) with ⟨bad, e⟩ | ⟨ok2, k2⟩
    · refine ⟨_, go _ (k1 _ e), Or.inr ⟨rfl, ?_⟩⟩
      unfold Go.Lib.decodeN; repeat' split
      all_goals first | (exfalso; omega) | rfl
    · obtain ⟨r, hr, hc⟩ := zbs (s := s) (p := p) (X := ((((s.get! p).toNat : Int) - 224) * 64 + ((s.get! (p + 1)).toNat : Int) - 128) * 64 + ((s.get! (p + 2)).toNat : Int) - 128) (w := 3) (L := 2048) (i := ((2 + 1 : Nat) : Int)) (by omega)
      refine ⟨r, go _ (k1 _ (k2 r hr)), ?_⟩
      rcases hc with ⟨rfl, hc⟩ | ⟨rfl, hc⟩
      · have d : Go.Lib.decodeN (s.size - p) (s.get! p).toNat (s.get! (p + 1)).toNat (s.get! (p + 2)).toNat (s.get! (p + 3)).toNat = ((s.get! p).toNat % 16 * 4096 + (s.get! (p + 1)).toNat % 64 * 64 + (s.get! (p + 2)).toNat % 64, 3) := by
          unfold Go.Lib.decodeN; repeat' split
          all_goals first | (exfalso; omega) | rfl
        rw [d]; exact Or.inl ⟨rfl, by simp only []; omega, rfl⟩
      · refine Or.inr ⟨rfl, ?_⟩
        unfold Go.Lib.decodeN; repeat' split
        all_goals first | (exfalso; omega) | rfl
theorem zgq (hs : s.size ≤ 9223372036854775807) (hp : p < s.size) (h0 : 240 ≤ (s.get! p).toNat ∧ (s.get! p).toNat < 245) :
    ∃ r, Ev (fun k => tabardref04_Read.j2 k s (p : Int) (((s.get! p).toNat : Int) - 240) 4 65536) r ∧ Fits (Go.Lib.decodeN (s.size - p) (s.get! p).toNat (s.get! (p + 1)).toNat (s.get! (p + 2)).toNat (s.get! (p + 3)).toNat) r := by
  have g1 := zaf s (p + 1); have g2 := zaf s (p + 2); have g3 := zaf s (p + 3)
  by_cases c : s.size - p < 4
  · refine ⟨_, Ev.step (fun k => by rw [tabardref04_Read.j2]) (Ev.cond (by rw [w64 (by omega) (by omega)]; omega) (Ev.fin rfl)), Or.inr ⟨rfl, ?_⟩⟩
    unfold Go.Lib.decodeN; repeat' split
    all_goals first | (exfalso; omega) | rfl
  · have go : ∀ r, Ev (fun k => tabardref04_Read.l0 k s (p : Int) (((s.get! p).toNat : Int) - 240) 4 65536 1) r → Ev (fun k => tabardref04_Read.j2 k s (p : Int) (((s.get! p).toNat : Int) - 240) 4 65536) r :=
      by
        intro r h
        refine Ev.step (fun k => by rw [tabardref04_Read.j2]) (Ev.ncond ?_ h)
        rw [w64 (by omega) (by omega)]; omega
    rcases zak (X := ((s.get! p).toNat : Int) - 240) (w := 4) (L := 65536) (i := 1) hs (by omega) (by omega) (by omega) (show p + 1 < s.size by omega) with ⟨bad, e⟩ | ⟨ok1, k1⟩
    · refine ⟨_, go _ e, Or.inr ⟨rfl, ?_⟩⟩
      unfold Go.Lib.decodeN; repeat' split
      all_goals first | (exfalso; omega) | rfl
    rcases zak (X := (((s.get! p).toNat : Int) - 240) * 64 + ((s.get! (p + 1)).toNat : Int) - 128) (w := 4) (L := 65536) (i := 2) hs (by omega) (by omega) (by omega) (show p + 2 < s.size by omega) with ⟨bad, e⟩ | ⟨ok2, k2⟩
    · refine ⟨_, go _ (k1 _ e), Or.inr ⟨rfl, ?_⟩⟩
      unfold Go.Lib.decodeN; repeat' split
      all_goals first | (exfalso; omega) | rfl
    rcases zak (X := ((((s.get! p).toNat : Int) - 240) * 64 + ((s.get! (p + 1)).toNat : Int) - 128) * 64 + ((s.get! (p + 2)).toNat : Int) - 128) (w := 4) (L := 65536) (i := 3) hs (by omega) (by omega) (by omega) (show p + 3 < s.size by omega) with ⟨bad, e⟩ | ⟨ok3, k3⟩
    · refine ⟨_, go _ (k1 _ (k2 _ e)), Or.inr ⟨rfl, ?_⟩⟩
      unfold Go.Lib.decodeN; repeat' split
      all_goals first | (exfalso; omega) | rfl
    · obtain ⟨r, hr, hc⟩ := zbs (s := s) (p := p) (X := (((((s.get! p).toNat : Int) - 240) * 64 + ((s.get! (p + 1)).toNat : Int) - 128) * 64 + ((s.get! (p + 2)).toNat : Int) - 128) * 64 + ((s.get! (p + 3)).toNat : Int) - 128) (w := 4) (L := 65536) (i := ((3 + 1 : Nat) : Int)) (by omega)
      refine ⟨r, go _ (k1 _ (k2 _ (k3 r hr))), ?_⟩
      rcases hc with ⟨rfl, hc⟩ | ⟨rfl, hc⟩
      · have d : Go.Lib.decodeN (s.size - p) (s.get! p).toNat (s.get! (p + 1)).toNat (s.get! (p + 2)).toNat (s.get! (p + 3)).toNat = ((s.get! p).toNat % 8 * 262144 + (s.get! (p + 1)).toNat % 64 * 4096 + (s.get! (p + 2)).toNat % 64 * 64 + (s.get! (p + 3)).toNat % 64, 4) := by
          unfold Go.Lib.decodeN; repeat' split
          all_goals first | (exfalso; omega) | rfl
        rw [d]; exact Or.inl ⟨rfl, by simp only []; omega, rfl⟩
      · refine Or.inr ⟨rfl, ?_⟩
        unfold Go.Lib.decodeN; repeat' split
        all_goals first | (exfalso; omega) | rfl
theorem zf9 (hs : s.size ≤ 9223372036854775807) (hp : p < s.size) : ∃ r, Ev (fun k => tabardref04_Read.f k s (p : Int)) r ∧ Fits (Utf8.decode s p) r := by
  rw [Go.Lib.decode_at]
  have b := zaf s p
  have g1 := zaf s (p + 1); have g2 := zaf s (p + 2); have g3 := zaf s (p + 3)
  have e0 : wrap64 (bt s (p : Int)) = ((s.get! p).toNat : Int) := by rw [zes s hp, w64 (by omega) (by omega)]
  have enter : ∀ r, Ev (fun k => if ((s.get! p).toNat : Int) < 128 then (some (((s.get! p).toNat : Int), (1 : Int), true)) else (if ((s.get! p).toNat : Int) ≥ 194 then (tabardref04_Read.j0 k s (p : Int) ((s.get! p).toNat : Int) (decide (((s.get! p).toNat : Int) < 224))) else (tabardref04_Read.j0 k s (p : Int) ((s.get! p).toNat : Int) false))) r → Ev (fun k => tabardref04_Read.f k s (p : Int)) r := by
    intro r h
    refine Ev.congr (fun k => by rw [tabardref04_Read.f, e0]) (Ev.cond (by omega) (Ev.cond (by omega) h))
  by_cases c0 : (s.get! p).toNat < 128
  · refine ⟨_, enter _ (Ev.cond (by omega) (Ev.fin rfl)), Or.inl ⟨rfl, ?_, ?_⟩⟩ <;> unfold Go.Lib.decodeN <;> rw [if_pos c0]
    rfl
  have w1 : wrap64 (((s.get! p).toNat : Int) - 192) = ((s.get! p).toNat : Int) - 192 := w64 (by omega) (by omega)
  have w2 : wrap64 (((s.get! p).toNat : Int) - 224) = ((s.get! p).toNat : Int) - 224 := w64 (by omega) (by omega)
  have w3 : wrap64 (((s.get! p).toNat : Int) - 240) = ((s.get! p).toNat : Int) - 240 := w64 (by omega) (by omega)
  by_cases c1 : 194 ≤ (s.get! p).toNat ∧ (s.get! p).toNat < 224
  · obtain ⟨r, hr, hf⟩ := zf5 hs hp c1
    refine ⟨r, enter _ (Ev.ncond (by omega) (Ev.cond (by omega) ?_)), hf⟩
    rw [decide_eq_true (show ((s.get! p).toNat : Int) < 224 by omega)]
    refine Ev.step (fun k => by rw [tabardref04_Read.j0, w1]) (Ev.cond rfl hr)
  have j1 : ∀ r, (¬ ((s.get! p).toNat : Int) < 224 ∨ ¬ ((s.get! p).toNat : Int) ≥ 194) → Ev (fun k => if ((s.get! p).toNat : Int) ≥ 224 then tabardref04_Read.j1 k s (p : Int) ((s.get! p).toNat : Int) (decide (((s.get! p).toNat : Int) < 240)) else tabardref04_Read.j1 k s (p : Int) ((s.get! p).toNat : Int) false) r → Ev (fun k => tabardref04_Read.f k s (p : Int)) r := by
    intro r hc h
    refine enter _ (Ev.ncond (by omega) (Ev.ite (fun g => ?_) (fun g => ?_)))
    · rw [decide_eq_false (show ¬ ((s.get! p).toNat : Int) < 224 by omega)]
      exact Ev.step (fun k => by rw [tabardref04_Read.j0]) (Ev.ncond (by decide) h)
    · exact Ev.step (fun k => by rw [tabardref04_Read.j0]) (Ev.ncond (by decide) h)
  by_cases c2 : 224 ≤ (s.get! p).toNat ∧ (s.get! p).toNat < 240
  · obtain ⟨r, hr, hf⟩ := zf3 hs hp c2
    refine ⟨r, j1 _ (by omega) (Ev.cond (by omega) ?_), hf⟩
    rw [decide_eq_true (show ((s.get! p).toNat : Int) < 240 by omega)]
    refine Ev.step (fun k => by rw [tabardref04_Read.j1, w2]) (Ev.cond rfl hr)
  by_cases c3 : 240 ≤ (s.get! p).toNat ∧ (s.get! p).toNat < 245
  · obtain ⟨r, hr, hf⟩ := zgq hs hp c3
    refine ⟨r, j1 _ (by omega) (Ev.cond (by omega) ?_), hf⟩
    rw [decide_eq_false (show ¬ ((s.get! p).toNat : Int) < 240 by omega)]
    refine Ev.step (fun k => by rw [tabardref04_Read.j1, w3]) (Ev.ncond (by decide) (Ev.cond (by omega) (Ev.cond (by omega) hr)))
  · refine ⟨(65533, 1, false), j1 _ (by omega) (Ev.ite (fun g => ?_) (fun g => ?_)), Or.inr ⟨rfl, ?_⟩⟩
    · rw [decide_eq_false (show ¬ ((s.get! p).toNat : Int) < 240 by omega)]
      exact Ev.step (fun k => by rw [tabardref04_Read.j1]) (Ev.ncond (by decide) (Ev.cond (by omega) (Ev.ncond (by omega) (Ev.fin rfl))))
    · exact Ev.step (fun k => by rw [tabardref04_Read.j1]) (Ev.ncond (by decide) (Ev.ncond (by omega) (Ev.fin rfl)))
    · unfold Go.Lib.decodeN; repeat' split
      all_goals first | (exfalso; omega) | rfl
end
end Go.Proofs.Ythgoonohpfoagaa.Pure
namespace Go.Proofs.Ythgoonohpfoagaa.Pure
open Go.RowKit Go.Proofs.YthgoonohpfoagaaW.PrintWords Go.Proofs.YthgoonohpfoagaaW.PrintLast Go.Proofs.YthgoonohpfoagaaW.PrintMore Go.Proofs.Ythgoonohpfoagaa.X
set_option linter.unusedVariables false
theorem zcf (s : ByteArray) (n : Nat) : Ev (fun k => if (n : Int) ≥ 1 then (if (n : Int) ≤ 16 then ((tabardref04_Reserved.f k s).bind fun t => some (!t)) else some false) else some false) (decide (1 ≤ n ∧ n ≤ 16) && !resB s) := by
  by_cases h1 : 1 ≤ n
  · by_cases h2 : n ≤ 16
    · refine Ev.cond (by omega) (Ev.cond (by omega) ?_)
      rw [decide_eq_true ⟨h1, h2⟩, Bool.true_and]
      exact Ev.bind (zge s) (Ev.fin rfl)
    · rw [decide_eq_false (fun e => h2 e.2)]
      exact Ev.cond (by omega) (Ev.ncond (by omega) (Ev.fin rfl))
  · rw [decide_eq_false (fun e => h1 e.1)]
    exact Ev.ncond (by omega) (Ev.fin rfl)
theorem zgb (n a b c d : Nat) (h : 1 ≤ n) : (Go.Lib.decodeN n a b c d).2 ≤ n := by
  unfold Go.Lib.decodeN; repeat' split
  all_goals (simp only []; omega)
theorem dec_in (s : ByteArray) (p : Nat) (h : p < s.size) : p + (Utf8.decode s p).2 ≤ s.size := by
  rw [Go.Lib.decode_at]
  have := zgb (s.size - p) (s.get! p).toNat (s.get! (p + 1)).toNat (s.get! (p + 2)).toNat (s.get! (p + 3)).toNat (by omega)
  omega
theorem zfj : za0 ((65533 : Nat) : Int) = false := by decide +kernel
theorem zfz (s : ByteArray) (hs : s.size ≤ 9223372036854775807) : Ev (fun k => tabardref04_Name.f k s) (zed s) := by
  have key : ∀ (m p n : Nat), s.size ≤ p + m → p ≤ s.size → n ≤ p → Ev (fun k => tabardref04_Name.l0 k s (n : Int) (p : Int)) (zaz m s p n) := by
    intro m
    induction m with
    | zero =>
      intro p n hp _ hn
      exact Ev.step (fun k => by rw [tabardref04_Name.l0]) (Ev.ncond (by omega) (zcf s n))
    | succ m ih =>
      intro p n hp hp2 hn
      rw [zaz]
      by_cases c : p < s.size
      · rw [if_pos c]
        have hw := zcd s p c
        obtain ⟨r, hr, hf⟩ := zf9 hs c
        refine Ev.step (fun k => by rw [tabardref04_Name.l0]) (Ev.cond (by omega) (Ev.bind hr ?_))
        rcases hf with ⟨f1, f2, f3⟩ | ⟨f1, f2⟩
        · have hb : p + (Utf8.decode s p).2 ≤ s.size := dec_in s p c
          rw [f2, f3]
          refine Ev.cond f1 ?_
          have go : za0 ((Utf8.decode s p).1 : Int) = true → Ev (fun k => tabardref04_Name.l0 k s (wrap64 ((n : Int) + 1)) (wrap64 ((p : Int) + ((Utf8.decode s p).2 : Int)))) (zaz m s (p + (Utf8.decode s p).2) (n + 1)) := by
            intro _
            rw [w64 (x := (n : Int) + 1) (by omega) (by omega), w64 (x := (p : Int) + ((Utf8.decode s p).2 : Int)) (by omega) (by omega)]
            have := ih (p + (Utf8.decode s p).2) (n + 1) (by omega) hb (by omega)
            rwa [Int.natCast_add, Int.natCast_add] at this
          have tail : (n = 0 → zad ((Utf8.decode s p).1 : Int) = true) → Ev (fun k => (tabardref04_Rest.f k ((Utf8.decode s p).1 : Int)).bind fun t => (if t = true then (tabardref04_Name.l0 k s (wrap64 ((n : Int) + 1)) (wrap64 ((p : Int) + ((Utf8.decode s p).2 : Int)))) else (some false))) (if (n = 0 → zad ((Utf8.decode s p).1 : Int) = true) ∧ za0 ((Utf8.decode s p).1 : Int) = true then zaz m s (p + (Utf8.decode s p).2) (n + 1) else false) := by
            intro h
            refine Ev.bind (zfd _) (Ev.ite (fun g => ?_) (fun g => Ev.fin ?_))
            · rw [if_pos ⟨h, g⟩]; exact go g
            · rw [if_neg (fun e => g e.2)]
          refine Ev.ite (fun z => Ev.bind (zcc _) (Ev.ite (fun h => tail (fun _ => h)) (fun h => Ev.fin ?_))) (fun z => tail (fun e => absurd (show (n : Int) = 0 by omega) z))
          rw [if_neg (fun e => h (e.1 (by omega)))]
        · rw [if_neg (fun e => by rw [f2] at e; exact absurd e.2 (by rw [zfj]; decide))]
          exact Ev.ncond (by rw [f1]; decide) (Ev.fin rfl)
      · rw [if_neg c]
        exact Ev.step (fun k => by rw [tabardref04_Name.l0]) (Ev.ncond (by omega) (zcf s n))
  exact Ev.congr (fun k => by rw [tabardref04_Name.f]; rfl) (key s.size 0 0 (by omega) (by omega) (by omega))
theorem zei (ns : List ByteArray) (hn : ns.length ≤ 9000000000000000000) (hs : ∀ x ∈ ns, x.size ≤ 9223372036854775807) : Ev (fun k => tabardref04_Rises.f k ns) (za4 ns) := by
  have key : ∀ (m i : Nat), i + m = ns.length → Ev (fun k => tabardref04_Rises.l0 k ns (i : Int)) (za8 ns m i) := by
    intro m
    induction m with
    | zero =>
      intro i hi
      refine Ev.step (fun k => by rw [tabardref04_Rises.l0]) (Ev.ncond (by omega) ?_)
      exact Ev.fin rfl
    | succ m ih =>
      intro i hi
      rw [za8]
      have sz : (rdOf ByteArray.empty ns (i : Int)).size ≤ 9223372036854775807 := by rw [zbc _ ns (show i < ns.length by omega)]; exact hs _ (List.getElem_mem _)
      refine Ev.step (fun k => by rw [tabardref04_Rises.l0]) (Ev.cond (by omega) (Ev.cond (by omega) (Ev.bind (zfz _ sz) ?_)))
      refine Ev.ite (fun a => ?_) (fun a => Ev.fin ?_)
      · rw [a, Bool.true_and]
        have nx := ih (i + 1) (by omega)
        refine Ev.ite (fun b => ?_) (fun b => ?_)
        · rw [w64 (x := (i : Int) - 1) (by omega) (by omega), w64 (x := (i : Int) + 1) (by omega) (by omega), show (i : Int) - 1 = ((i - 1 : Nat) : Int) by omega, decide_eq_false (show ¬ i = 0 by omega), Bool.false_or]
          refine Ev.cond (by omega) (Ev.cond (by omega) (Ev.ite (fun c => ?_) (fun c => Ev.fin ?_)))
          · rw [c, Bool.true_and]; exact nx
          · rw [Bool.not_eq_true] at c; rw [c, Bool.false_and]
        · rw [decide_eq_true (show i = 0 by omega), Bool.true_or, Bool.true_and, w64 (by omega) (by omega)]
          exact nx
      · rw [Bool.not_eq_true] at a; rw [a, Bool.false_and]
  exact Ev.congr (fun k => by rw [tabardref04_Rises.f]; rfl) (key ns.length 0 (by omega))
section
variable {ns : List ByteArray} {n : Nat}
variable {ac : List Bool} {nx : List (List Int)}
end
end Go.Proofs.Ythgoonohpfoagaa.Pure
namespace Go.Proofs.Ythgoonohpfoagaa.Pure
open Go.RowKit Go.Proofs.YthgoonohpfoagaaW.PrintWords Go.Proofs.YthgoonohpfoagaaW.PrintLast Go.Proofs.YthgoonohpfoagaaW.PrintMore Go.Proofs.Ythgoonohpfoagaa.X
set_option linter.unusedVariables false
def acF (ac : List Bool) (q : Nat) : Bool := ac.getD q false
def dlF (nx : List (List Int)) (q a : Nat) : Nat := ((nx.getD q []).getD a 0).toNat
structure Mk (ac : List Bool) (nx : List (List Int)) (L : Nat) : Prop where
  len : nx.length = ac.length
  n1 : 1 ≤ ac.length
  n2 : ac.length ≤ 256
  l1 : 1 ≤ L
  l2 : L ≤ 64
  rows : ∀ r ∈ nx, r.length = L ∧ ∀ x ∈ r, 0 ≤ x ∧ x < (ac.length : Int)
section
variable {ac : List Bool} {nx : List (List Int)} {L : Nat}
theorem Mk.row (h : Mk ac nx L) {q : Nat} (hq : q < ac.length) : (rd_L3 nx (q : Int)).length = L ∧ ∀ a : Nat, a < L → rd (rd_L3 nx (q : Int)) (a : Int) = ((dlF nx q a : Nat) : Int) ∧ dlF nx q a < ac.length := by
  have hq' : q < nx.length := by rw [h.len]; exact hq
  have r := h.rows _ (List.getElem_mem hq')
  rw [zb6 nx hq']
  refine ⟨r.1, fun a ha => ?_⟩
  have ha' : a < (nx[q]).length := by rw [r.1]; exact ha
  have x := r.2 _ (List.getElem_mem ha')
  have e : dlF nx q a = ((nx[q])[a]).toNat := by simp [dlF, List.getD_eq_getElem?_getD, List.getElem?_eq_getElem hq', List.getElem?_eq_getElem ha']
  rw [zbf _ ha', e]
  omega
theorem Mk.acc (h : Mk ac nx L) {q : Nat} (hq : q < ac.length) : rdOf false ac (q : Int) = acF ac q := by
  rw [zbc false ac hq, acF, List.getD_eq_getElem?_getD, List.getElem?_eq_getElem hq]; rfl
end
end Go.Proofs.Ythgoonohpfoagaa.Pure
namespace Go.Proofs.Ythgoonohpfoagaa.Pure
set_option linter.unusedVariables false
section
variable {α : Type} [DecidableEq α]
def nm (ms : List α) (x : α) : List α := if x ∈ ms then ms else ms ++ [x]
def dd (l : List α) : List α := l.foldl nm []
theorem za7 {ms : List α} {x y : α} : y ∈ nm ms x ↔ y ∈ ms ∨ y = x := by
  unfold nm
  split
  · rename_i h
    exact ⟨Or.inl, fun g => g.elim id (fun e => e ▸ h)⟩
  · simp
theorem zcy {ms : List α} (h : ms.Nodup) (x : α) : (nm ms x).Nodup := by
  unfold nm
  split
  · exact h
  · rename_i g
    rw [List.nodup_append]
    exact ⟨h, by simp, fun a ha b hb e => g (by rw [List.mem_singleton.1 hb] at e; exact e ▸ ha)⟩
theorem zc8 (ms : List α) (x : α) : ∃ t, nm ms x = ms ++ t := by
  unfold nm
  split
  · exact ⟨[], by simp⟩
  · exact ⟨_, rfl⟩
theorem zer (l : List α) : ∀ ms : List α, ∃ t, l.foldl nm ms = ms ++ t := by
  induction l with
  | nil => intro ms; exact ⟨[], by simp⟩
  | cons x l ih =>
    intro ms
    obtain ⟨t, ht⟩ := zc8 ms x
    obtain ⟨u, hu⟩ := ih (nm ms x)
    exact ⟨t ++ u, by rw [List.foldl_cons, hu, ht, List.append_assoc]⟩
theorem zeq (l : List α) : ∀ (ms : List α) (y : α), y ∈ l.foldl nm ms ↔ y ∈ ms ∨ y ∈ l := by
  induction l with
  | nil => intro ms y; simp
  | cons x l ih => intro ms y; rw [List.foldl_cons, ih, za7, List.mem_cons, or_assoc]
theorem zdi (l : List α) : ∀ ms : List α, ms.Nodup → (l.foldl nm ms).Nodup := by
  induction l with
  | nil => intro ms h; exact h
  | cons x l ih => intro ms h; exact ih _ (zcy h x)
theorem zan {l : List α} {y : α} : y ∈ dd l ↔ y ∈ l := by rw [dd, zeq]; simp
theorem zfu (l : List α) : (dd l).Nodup := zdi l [] List.nodup_nil
theorem zdy (l : List α) (x : α) : dd (l ++ [x]) = nm (dd l) x := by rw [dd, List.foldl_append]; rfl
theorem ze4 (l : List α) : ∀ ms : List α, (l.foldl nm ms).length ≤ ms.length + l.length := by
  induction l with
  | nil => intro ms; simp
  | cons x l ih =>
    intro ms
    have := ih (nm ms x)
    have h : (nm ms x).length ≤ ms.length + 1 := by
      unfold nm; split
      · omega
      · simp
    rw [List.foldl_cons, List.length_cons]; omega
theorem zcl (l : List α) : (dd l).length ≤ l.length := by have := ze4 l []; simpa [dd] using this
theorem zdr {ms t : List α} {x : α} (h : x ∈ ms) : (ms ++ t).idxOf x = ms.idxOf x := by rw [List.idxOf_append, if_pos h]
theorem zd0 {ms : List α} {x y : α} (hx : x ∈ ms) (hy : y ∈ ms) (h : ms.idxOf x = ms.idxOf y) : x = y := by
  have h1 := List.idxOf_lt_length_of_mem hx
  have h2 := List.idxOf_lt_length_of_mem hy
  have e1 := List.getElem_idxOf h1
  have e2 := List.getElem_idxOf h2
  rw [← e1, ← e2]
  simp only [h]
theorem dd_map {β : Type} [DecidableEq β] (f : α → β) (l : List α) (hf : ∀ x ∈ l, ∀ y ∈ l, f x = f y → x = y) : dd (l.map f) = (dd l).map f := by
  have key : ∀ (n : Nat) (l : List α), l.length = n → (∀ x ∈ l, ∀ y ∈ l, f x = f y → x = y) → dd (l.map f) = (dd l).map f := by
    intro n
    induction n with
    | zero => intro l hl _; rw [List.length_eq_zero_iff.1 hl]; rfl
    | succ n ih =>
      intro l hl hf
      rcases List.eq_nil_or_concat l with rfl | ⟨m, x, rfl⟩
      · rfl
      · rw [List.concat_eq_append] at *
        have hm := ih m (by simpa using hl) (fun x hx y hy => hf x (by simp [hx]) y (by simp [hy]))
        rw [List.map_append, List.map_cons, List.map_nil, zdy, zdy, hm]
        unfold nm
        by_cases c : x ∈ dd m
        · rw [if_pos c, if_pos (List.mem_map_of_mem c)]
        · rw [if_neg c, if_neg, List.map_append]; · rfl
          intro h
          obtain ⟨y, hy, e⟩ := List.mem_map.1 h
          exact c (by rw [hf x (by simp) y (by simp [zan.1 hy]) e.symm]; exact hy)
  exact key _ l rfl hf
theorem zeu {S : List α} : ∀ {T : List α}, S.Nodup → (∀ x ∈ S, x ∈ T) → T.length ≤ S.length → ∀ y ∈ T, y ∈ S := by
  induction S with
  | nil => intro T _ _ h y hy; rw [List.eq_nil_of_length_eq_zero (Nat.le_zero.1 h)] at hy; exact hy
  | cons x S ih =>
    intro T hn hs hl y hy
    have hx : x ∈ T := hs x (by simp)
    have hn2 := List.nodup_cons.1 hn
    by_cases e : y = x
    · rw [e]; simp
    · refine List.mem_cons_of_mem _ (ih (T := T.erase x) hn2.2 (fun z hz => ?_) ?_ y ((List.mem_erase_of_ne e).2 hy))
      · have : z ≠ x := fun e => hn2.1 (e ▸ hz)
        exact (List.mem_erase_of_ne this).2 (hs z (by simp [hz]))
      · rw [List.length_erase_of_mem hx]
        rw [List.length_cons] at hl
        omega
theorem zb8 {S T : List α} (hn : S.Nodup) (hs : ∀ x ∈ S, x ∈ T) : S.length ≤ T.length := by
  induction S generalizing T with
  | nil => simp
  | cons x S ih =>
    have hx : x ∈ T := hs x (by simp)
    have hn2 := List.nodup_cons.1 hn
    have := ih (T := T.erase x) hn2.2 (fun z hz => (List.mem_erase_of_ne (show z ≠ x from fun e => hn2.1 (e ▸ hz))).2 (hs z (by simp [hz])))
    rw [List.length_erase_of_mem hx] at this
    have : 0 < T.length := List.length_pos_of_mem hx
    rw [List.length_cons]; omega
end
theorem finer {β : Type} [DecidableEq β] {m m' : List β} (hl : m.length = m'.length) (hr : ∀ p q (hp : p < m.length) (hq : q < m.length), m'[p]'(hl ▸ hp) = m'[q]'(hl ▸ hq) → m[p] = m[q]) :
    (dd m).length ≤ (dd m').length ∧ ((dd m).length = (dd m').length → ∀ p q (hp : p < m.length) (hq : q < m.length), m[p] = m[q] → m'[p]'(hl ▸ hp) = m'[q]'(hl ▸ hq)) := by
  have pos : ∀ v ∈ dd m, m.idxOf v < m.length := fun v hv => List.idxOf_lt_length_of_mem (zan.1 hv)
  have hpos : ∀ v (hv : v ∈ dd m), m[m.idxOf v]'(pos v hv) = v := fun v hv => List.getElem_idxOf (pos v hv)
  let S := (dd m).attach.map fun v => m'[m.idxOf v.1]'(hl ▸ pos v.1 v.2)
  have hS : S.Nodup := by
    show (List.map _ _).Nodup
    rw [List.nodup_iff_pairwise_ne, List.pairwise_map]
    have h0 : (dd m).attach.Pairwise (fun a b => a.1 ≠ b.1) := by
      have := zfu m
      rw [List.nodup_iff_pairwise_ne] at this
      rw [← List.pairwise_map (f := Subtype.val) (R := fun a b => a ≠ b), List.attach_map_subtype_val]
      exact this
    refine h0.imp (fun {a b} hab e => hab ?_)
    have := hr _ _ (pos a.1 a.2) (pos b.1 b.2) e
    rw [hpos a.1 a.2, hpos b.1 b.2] at this
    exact this
  have hsub : ∀ x ∈ S, x ∈ dd m' := by
    intro x hx
    obtain ⟨v, _, rfl⟩ := List.mem_map.1 hx
    exact zan.2 (List.getElem_mem _)
  have hlen : S.length = (dd m).length := by simp [S]
  refine ⟨hlen ▸ zb8 hS hsub, fun he p q hp hq e => ?_⟩
  have sup := zeu hS hsub (by omega)
  have at_ : ∀ p (hp : p < m.length), m'[p]'(hl ▸ hp) = m'[m.idxOf m[p]]'(hl ▸ pos _ (zan.2 (List.getElem_mem hp))) := by
    intro p hp
    obtain ⟨v, _, ev⟩ := List.mem_map.1 (sup _ (zan.2 (List.getElem_mem (hl ▸ hp : p < m'.length))))
    have h1 := hr _ _ (pos v.1 v.2) hp ev
    rw [hpos v.1 v.2] at h1
    rw [← ev]
    simp only [h1]
  rw [at_ p hp, at_ q hq]
  simp only [e]
section
variable (acc : Nat → Bool) (δ : Nat → Nat → Nat) (L : Nat)
def RR : Nat → Nat → Nat → Prop
  | 0, p, q => acc p = acc q
  | i + 1, p, q => RR i p q ∧ ∀ a, a < L → RR i (δ p a) (δ q a)
def EE (p q : Nat) : Prop := ∀ i, RR acc δ L i p q
end
section
variable {acc : Nat → Bool} {δ : Nat → Nat → Nat} {L : Nat}
theorem RR.refl : ∀ (i p : Nat), RR acc δ L i p p
  | 0, _ => rfl
  | i + 1, p => ⟨RR.refl i p, fun a _ => RR.refl i _⟩
theorem RR.symm : ∀ {i p q : Nat}, RR acc δ L i p q → RR acc δ L i q p
  | 0, _, _, h => Eq.symm h
  | _ + 1, _, _, h => ⟨RR.symm h.1, fun a ha => RR.symm (h.2 a ha)⟩
theorem RR.trans : ∀ {i p q r : Nat}, RR acc δ L i p q → RR acc δ L i q r → RR acc δ L i p r
  | 0, _, _, _, h, k => Eq.trans h k
  | _ + 1, _, _, _, h, k => ⟨RR.trans h.1 k.1, fun a ha => RR.trans (h.2 a ha) (k.2 a ha)⟩
theorem RR.down : ∀ {j i p q : Nat}, RR acc δ L (i + j) p q → RR acc δ L i p q
  | 0, _, _, _, h => h
  | _ + 1, _, _, _, h => RR.down h.1
theorem EE.refl (p : Nat) : EE acc δ L p p := fun i => RR.refl i p
theorem EE.symm {p q : Nat} (h : EE acc δ L p q) : EE acc δ L q p := fun i => (h i).symm
theorem EE.trans {p q r : Nat} (h : EE acc δ L p q) (k : EE acc δ L q r) : EE acc δ L p r := fun i => (h i).trans (k i)
theorem EE.next {p q a : Nat} (h : EE acc δ L p q) (ha : a < L) : EE acc δ L (δ p a) (δ q a) := fun i => (h (i + 1)).2 a ha
theorem RR.stays {n : Nat} (hδ : ∀ q, q < n → ∀ a, a < L → δ q a < n) {i : Nat} (h : ∀ p q, p < n → q < n → RR acc δ L i p q → RR acc δ L (i + 1) p q) : ∀ (j p q : Nat), p < n → q < n → RR acc δ L i p q → RR acc δ L (i + j) p q := by
  intro j
  induction j with
  | zero => intro p q _ _ k; exact k
  | succ j ih => intro p q hp hq k; exact ⟨ih p q hp hq k, fun a ha => ih _ _ (hδ p hp a ha) (hδ q hq a ha) ((h p q hp hq k).2 a ha)⟩
theorem EE.of_stays {n : Nat} (hδ : ∀ q, q < n → ∀ a, a < L → δ q a < n) {i : Nat} (h : ∀ p q, p < n → q < n → RR acc δ L i p q → RR acc δ L (i + 1) p q) {p q : Nat} (hp : p < n) (hq : q < n) (k : RR acc δ L i p q) : EE acc δ L p q := by
  intro j
  by_cases c : j ≤ i
  · obtain ⟨d, rfl⟩ : ∃ d, i = j + d := ⟨i - j, by omega⟩
    exact k.down
  · obtain ⟨d, rfl⟩ : ∃ d, j = i + d := ⟨j - i, by omega⟩
    exact RR.stays hδ h d p q hp hq k
end
structure Least (r : Nat → Nat → Prop) (n : Nat) (l : List Int) : Prop where
  len : l.length = n
  at_ : ∀ q, q < n → ∃ p : Nat, l.getD q 0 = (p : Int) ∧ p ≤ q ∧ r p q ∧ ∀ p', p' < p → ¬ r p' q
theorem Least.iff {r s : Nat → Nat → Prop} {n : Nat} {l : List Int} (h : Least r n l) (e : ∀ p q, p < n → q < n → (r p q ↔ s p q)) : Least s n l :=
  ⟨h.len, fun q hq => by
    obtain ⟨p, h1, h2, h3, h4⟩ := h.at_ q hq
    exact ⟨p, h1, h2, (e p q (by omega) hq).1 h3, fun p' hp' z => h4 p' hp' ((e p' q (by omega) hq).2 z)⟩⟩
end Go.Proofs.Ythgoonohpfoagaa.Pure
namespace Go.Proofs.Ythgoonohpfoagaa.Pure
set_option linter.unusedVariables false
section
variable (L : Nat)
def rkF (r : Nat) (w : List Nat) : Nat := w.foldl (fun r a => r * L + a + 1) r
def Let (w : List Nat) : Prop := ∀ a ∈ w, a < L
end
section
variable {L : Nat}
theorem zbd (r a : Nat) (v : List Nat) : rkF L r (a :: v) = rkF L (r * L + a + 1) v := rfl
theorem zf8 {r r' a b : Nat} (h : r < r') (ha : a < L) : r * L + a + 1 < r' * L + b + 1 := by
  have : (r + 1) * L ≤ r' * L := Nat.mul_le_mul_right L h
  rw [Nat.add_mul] at this
  omega
theorem rk_lt : ∀ (x y : List Nat) (r r' : Nat), x.length = y.length → Let L x → r < r' → rkF L r x < rkF L r' y
  | [], [], _, _, _, _, h => h
  | [], _ :: _, _, _, h, _, _ => by simp at h
  | _ :: _, [], _, _, h, _, _ => by simp at h
  | a :: x, b :: y, r, r', hl, hx, h => by
    rw [zbd, zbd]
    exact rk_lt x y _ _ (by simpa using hl) (fun c hc => hx c (by simp [hc])) (zf8 h (hx a (by simp)))
end
section
variable (acc : Nat → Bool) (δ : Nat → Nat → Nat) (L : Nat)
def runN (q : Nat) (w : List Nat) : Nat := w.foldl δ q
def accN : Nat → Nat → Bool
  | 0, q => acc q
  | n + 1, q => (List.range L).any fun a => accN n (δ q a)
end
section
variable {acc : Nat → Bool} {δ : Nat → Nat → Nat} {L : Nat}
theorem zcg (q : Nat) (u : List Nat) (b : Nat) : runN δ q (u ++ [b]) = δ (runN δ q u) b := by simp [runN]
theorem zby : ∀ (n q : Nat), accN acc δ L n q = true ↔ ∃ w, w.length = n ∧ Let L w ∧ acc (runN δ q w) = true
  | 0, q => by
    constructor
    · intro h; exact ⟨[], rfl, by simp [Let], h⟩
    · rintro ⟨w, h0, _, h⟩
      rw [List.length_eq_zero_iff.1 h0] at h
      exact h
  | n + 1, q => by
    rw [accN, List.any_eq_true]
    constructor
    · rintro ⟨a, ha, h⟩
      obtain ⟨w, h1, h2, h3⟩ := (zby n (δ q a)).1 h
      exact ⟨a :: w, by simp [h1], by intro c hc; rcases List.mem_cons.1 hc with rfl | h; exact List.mem_range.1 ha; exact h2 c h, h3⟩
    · rintro ⟨w, h1, h2, h3⟩
      rcases w with _ | ⟨a, w⟩
      · simp at h1
      · exact ⟨a, List.mem_range.2 (h2 a (by simp)), (zby n (δ q a)).2 ⟨w, by simpa using h1, fun c hc => h2 c (by simp [hc]), h3⟩⟩
inductive Greedy (acc : Nat → Bool) (δ : Nat → Nat → Nat) (L : Nat) : Nat → Nat → List Nat → Prop
  | nil (q : Nat) (h : acc q = true) : Greedy acc δ L 0 q []
  | cons (n q a : Nat) (w : List Nat) (ha : a < L) (hl : ∀ b, b < a → accN acc δ L n (δ q b) = false) (h : Greedy acc δ L n (δ q a) w) : Greedy acc δ L (n + 1) q (a :: w)
theorem Greedy.len {n q : Nat} {w : List Nat} (h : Greedy acc δ L n q w) : w.length = n ∧ Let L w ∧ acc (runN δ q w) = true := by
  induction h with
  | nil q h => exact ⟨rfl, by simp [Let], h⟩
  | cons n q a w ha hl h ih => exact ⟨by simp [ih.1], by intro c hc; rcases List.mem_cons.1 hc with rfl | h; exact ha; exact ih.2.1 c h, ih.2.2⟩
theorem Greedy.least {n q : Nat} {w : List Nat} (h : Greedy acc δ L n q w) : ∀ (v : List Nat) (r : Nat), v.length = n → Let L v → acc (runN δ q v) = true → rkF L r w ≤ rkF L r v := by
  induction h with
  | nil q h => intro v r hv _ _; rw [List.length_eq_zero_iff.1 hv]; exact Nat.le_refl _
  | cons n q a w ha hl h ih =>
    intro v r hv hlv hacc
    rcases v with _ | ⟨c, v⟩
    · simp at hv
    have hv' : v.length = n := by simpa using hv
    have hlv' : Let L v := fun z hz => hlv z (by simp [hz])
    rw [zbd, zbd]
    rcases Nat.lt_trichotomy a c with d | d | d
    · exact Nat.le_of_lt (rk_lt w v _ _ (by rw [h.len.1, hv']) h.len.2.1 (by omega))
    · subst d; exact ih v _ hv' hlv' hacc
    · have := hl c d
      rw [(zby n (δ q c)).2 ⟨v, hv', hlv', hacc⟩] at this
      cases this
structure Met (acc : Nat → Bool) (δ : Nat → Nat → Nat) (L n : Nat) (ls : List Nat) (ws : List (List Nat)) : Prop where
  len : ws.length = ls.length
  h0 : ls[0]? = some 0 ∧ ws[0]? = some []
  run : ∀ (k q : Nat) (w : List Nat), ls[k]? = some q → ws[k]? = some w → runN δ 0 w = q ∧ Let L w ∧ q < n ∧ w.length ≤ k
  up : ∀ (k k' : Nat) (w w' : List Nat), k < k' → ws[k]? = some w → ws[k']? = some w' → rkF L 0 w < rkF L 0 w'
  nodup : ls.Nodup
theorem Met.size {n : Nat} {ls : List Nat} {ws : List (List Nat)} (M : Met acc δ L n ls ws) : ls.length ≤ n := by
  have : ∀ x ∈ ls, x ∈ List.range n := by
    intro x hx
    obtain ⟨k, hk, rfl⟩ := List.getElem_of_mem hx
    obtain ⟨w, hw⟩ : ∃ w, ws[k]? = some w := ⟨_, List.getElem?_eq_getElem (by rw [M.len]; exact hk)⟩
    exact List.mem_range.2 (M.run k _ w (List.getElem?_eq_getElem hk) hw).2.2.1
  have key : ∀ (S : List Nat) (T : List Nat), S.Nodup → (∀ x ∈ S, x ∈ T) → S.length ≤ T.length := by
    intro S
    induction S with
    | nil => intro T _ _; simp
    | cons x S ih =>
      intro T hn hs
      have hx : x ∈ T := hs x (by simp)
      have hn2 := List.nodup_cons.1 hn
      have := ih (T.erase x) hn2.2 (fun z hz => (List.mem_erase_of_ne (show z ≠ x from fun e => hn2.1 (e ▸ hz))).2 (hs z (by simp [hz])))
      rw [List.length_erase_of_mem hx] at this
      have : 0 < T.length := List.length_pos_of_mem hx
      rw [List.length_cons]; omega
  have := key ls (List.range n) M.nodup this
  simpa using this
end
end Go.Proofs.Ythgoonohpfoagaa.Pure
namespace Go.Proofs.Ythgoonohpfoagaa.Pure
open Go.RowKit Go.Proofs.YthgoonohpfoagaaW.PrintWords Go.Proofs.YthgoonohpfoagaaW.PrintLast Go.Proofs.YthgoonohpfoagaaW.PrintMore Go.Proofs.Ythgoonohpfoagaa.X
set_option linter.unusedVariables false
theorem zc0 {x : Int} (h0 : 0 ≤ x) (h1 : x ≤ 1000000) : (Lit.int .i64 x).wf = true := by
  simp [Lit.wf, IntKind.min, IntKind.max, IntKind.signed, IntKind.bits]; omega
theorem dgo : ∀ (l : List Int) (j : Nat) (xs ms : List Int), xs.length = j + l.length →
    canon_dense.go l j xs ms = (xs.take j ++ l.map (fun x => (((l.foldl nm ms).idxOf x : Nat) : Int)), l.foldl nm ms)
  | [], j, xs, ms, h => by simp [canon_dense.go, List.take_of_length_le (show xs.length ≤ j by simpa using Nat.le_of_eq h)]
  | x :: l, j, xs, ms, h => by
    rw [canon_dense.go, dgo l (j + 1) _ _ (by rw [List.length_set, h, List.length_cons]; omega)]
    have hx : x ∈ nm ms x := za7.2 (.inr rfl)
    obtain ⟨t, ht⟩ := zer l (nm ms x)
    have e : num1 (names1 ms x) x = (l.foldl nm (nm ms x)).idxOf x := by rw [ht, zdr hx]; rfl
    have j1 : j < xs.length := by rw [h, List.length_cons]; omega
    have e2 : (xs.set j ((num1 (names1 ms x) x : Nat) : Int)).take (j + 1) = xs.take j ++ [((num1 (names1 ms x) x : Nat) : Int)] := by
      rw [List.take_succ_eq_append_getElem (by simpa using j1), List.getElem_set_self, List.take_set_of_le (Nat.le_refl _)]
    rw [e2, e]
    simp [List.foldl_cons, show names1 ms x = nm ms x from rfl]
theorem zfm {l : List Int} (hl : l.length ≤ 35184372088832) (hw : ∀ x ∈ l, (Lit.int .i64 x).wf = true) :
    canon_dense.f l = some (l.map (fun x => (((dd l).idxOf x : Nat) : Int)), ((dd l).length : Int)) := by
  unfold canon_dense.f
  rw [if_pos hl, if_pos hw, dgo l 0 _ [] (by simp)]
  simp [dd]
theorem zaw {α : Type} [DecidableEq α] {ms t : List α} {x : α} (h : x ∈ ms) : num1 (ms ++ t) x = num1 ms x := zdr h
theorem zfr {α : Type} [DecidableEq α] {ms : List α} {x y : α} (hx : x ∈ ms) (hy : y ∈ ms) (h : num1 ms x = num1 ms y) : x = y := zd0 hx hy h
theorem zau {α : Type} [DecidableEq α] {ms : List α} {x : α} (h : x ∈ ms) : num1 ms x < ms.length := List.idxOf_lt_length_of_mem h
def zae (cls : List Int) (P : List (Int × Int)) (len : Int) : List Int → Int → Int → Int → Prop
  | [], _, n, z => n = z
  | q :: r, a, n, z => (n * (len + 1) + a, rd cls q) ∈ P ∧ zae cls P len r (a + 1) ((num1 P (n * (len + 1) + a, rd cls q) : Nat) : Int) z
theorem zae.more {cls : List Int} {P t : List (Int × Int)} {len : Int} : ∀ {r : List Int} {a n z : Int}, zae cls P len r a n z → zae cls (P ++ t) len r a n z
  | [], _, _, _, h => h
  | q :: r, a, n, z, ⟨h1, h2⟩ => ⟨List.mem_append_left _ h1, by rw [zaw h1]; exact zae.more h2⟩
theorem zae.same {cls : List Int} {P : List (Int × Int)} {len : Int} : ∀ {r r' : List Int} {a n z z' : Int}, r.map (rd cls) = r'.map (rd cls) → zae cls P len r a n z → zae cls P len r' a n z' → z = z'
  | [], [], _, _, _, _, _, h, k => (Eq.symm h).trans k
  | [], _ :: _, _, _, _, _, e, _, _ => by simp at e
  | _ :: _, [], _, _, _, _, e, _, _ => by simp at e
  | q :: r, q' :: r', a, n, z, z', e, ⟨_, h⟩, ⟨_, k⟩ => by
    rw [List.map_cons, List.map_cons, List.cons.injEq] at e
    rw [← e.1] at k
    exact zae.same e.2 h k
theorem zae.back {cls : List Int} {P : List (Int × Int)} {len : Int} (hlen : 0 ≤ len) : ∀ {r r' : List Int} {a n n' z : Int}, r.length = r'.length → 0 ≤ n → 0 ≤ n' → zae cls P len r a n z → zae cls P len r' a n' z → n = n' ∧ r.map (rd cls) = r'.map (rd cls)
  | [], [], _, _, _, _, _, _, _, h, k => ⟨Eq.trans h (Eq.symm k), rfl⟩
  | [], _ :: _, _, _, _, _, e, _, _, _, _ => by simp at e
  | _ :: _, [], _, _, _, _, e, _, _, _, _ => by simp at e
  | q :: r, q' :: r', a, n, n', z, e, h0, h1, ⟨m, h⟩, ⟨m', k⟩ => by
    obtain ⟨e1, e2⟩ := zae.back hlen (by simpa using e) (by omega) (by omega) h k
    have e3 := zfr m m' (by omega)
    rw [Prod.mk.injEq] at e3
    have e4 : n * (len + 1) = n' * (len + 1) := by omega
    exact ⟨Int.eq_of_mul_eq_mul_right (by omega) e4, by rw [List.map_cons, List.map_cons, e3.2, e2]⟩
def Sm (cls : List Int) : Prop := ∀ x ∈ cls, 0 ≤ x ∧ x ≤ 1000
theorem Sm.bd {cls : List Int} (h : Sm cls) (q : Int) : 0 ≤ rd cls q ∧ rd cls q ≤ 1000 := by
  unfold rd
  rw [List.getD_eq_getElem?_getD]
  by_cases c : q.toNat < cls.length
  · rw [List.getElem?_eq_getElem c]; exact h _ (List.getElem_mem c)
  · rw [List.getElem?_eq_none (by omega)]; simp
theorem mul_bd {n len : Int} (h0 : 0 ≤ n) (h1 : n ≤ 100000) (h2 : 0 ≤ len) (h3 : len ≤ 64) : 0 ≤ n * (len + 1) ∧ n * (len + 1) ≤ 6500000 := by
  refine ⟨Int.mul_nonneg h0 (by omega), ?_⟩
  have := Int.mul_le_mul h1 (show len + 1 ≤ 65 by omega) (by omega) (by omega : (0 : Int) ≤ 100000)
  omega
theorem nm_len {α : Type} [DecidableEq α] (ms : List α) (x : α) : (nm ms x).length ≤ ms.length + 1 ∧ ms.length ≤ (nm ms x).length := by
  unfold nm; split
  · omega
  · simp
theorem srow {cls : List Int} (hc : Sm cls) {len : Int} (h2 : 0 ≤ len) (h3 : len ≤ 64) : ∀ (r : List Int) (a n : Int) (ps : List (Int × Int)), (∀ q ∈ r, 0 ≤ q ∧ q < (cls.length : Int)) → 0 ≤ a → a + r.length ≤ 64 → 0 ≤ n → n ≤ 100000 → ps.length + r.length ≤ 100000 →
    ∃ (z : Int) (t : List (Int × Int)), canon_split.row cls len r a n ps = some (z, ps ++ t) ∧ t.length ≤ r.length ∧ 0 ≤ z ∧ z ≤ 100000 ∧ zae cls (ps ++ t) len r a n z
  | [], a, n, ps, _, _, _, h0, h1, _ => ⟨n, [], by simp [canon_split.row], Nat.le_refl _, h0, h1, rfl⟩
  | q :: r, a, n, ps, hq, ha, har, h0, h1, hp => by
    have q1 := hq q (by simp)
    have m := mul_bd h0 h1 h2 h3
    have c := hc.bd q
    rw [List.length_cons] at hp har
    rw [canon_split.row, if_pos q1.1, if_pos q1.2, if_pos (zc0 c.1 (by omega)), if_pos (by omega)]
    have e : wrap64 (wrap64 (n * wrap64 (len + 1)) + a) = n * (len + 1) + a := by
      rw [show wrap64 (len + 1) = len + 1 from by unfold wrap64; omega]
      rw [show wrap64 (n * (len + 1)) = n * (len + 1) from by generalize n * (len + 1) = y at m; unfold wrap64; omega]
      generalize n * (len + 1) = y at m; unfold wrap64; omega
    have e' : wrap64 (a + 1) = a + 1 := by unfold wrap64; omega
    rw [e, e', show names1 ps (n * (len + 1) + a, rd cls q) = nm ps (n * (len + 1) + a, rd cls q) from rfl]
    generalize hp' : (n * (len + 1) + a, rd cls q) = p
    obtain ⟨t0, ht0⟩ := zc8 ps p
    have l1 := nm_len ps p
    have hm : p ∈ nm ps p := za7.2 (.inr rfl)
    have lt := zau hm
    obtain ⟨z, t, h, ht, z0, z1, ch⟩ := srow hc h2 h3 r (a + 1) ((num1 (nm ps p) p : Nat) : Int) (nm ps p) (fun x hx => hq x (by simp [hx])) (by omega) (by omega) (by omega) (by omega) (by omega)
    have l2 : t0.length ≤ 1 := by have := congrArg List.length ht0; rw [List.length_append] at this; omega
    rw [ht0, List.append_assoc] at h ch
    rw [ht0]
    refine ⟨z, t0 ++ t, h, by rw [List.length_append, List.length_cons]; omega, z0, z1, ?_⟩
    rw [ht0] at hm
    unfold zae
    rw [hp']
    refine ⟨by rw [← List.append_assoc]; exact List.mem_append_left _ hm, ?_⟩
    have e5 : num1 (ps ++ (t0 ++ t)) p = num1 (ps ++ t0) p := by rw [← List.append_assoc, zaw hm]
    rw [e5]; exact ch
theorem sgo {cls : List Int} (hc : Sm cls) : ∀ (l : List (List Int)) (j : Nat) (xs : List Int) (ps : List (Int × Int)), (∀ r ∈ l, r.length ≤ 64 ∧ ∀ q ∈ r, 0 ≤ q ∧ q < (cls.length : Int)) → j + l.length ≤ cls.length → xs.length = cls.length → ps.length + 64 * l.length ≤ 100000 →
    ∃ (ys : List Int) (t : List (Int × Int)), canon_split.go cls l j xs ps = some ys ∧ ys.length = xs.length ∧ (∀ i, i < j → ys.getD i 0 = xs.getD i 0) ∧ (∀ i (h : i < l.length), 0 ≤ ys.getD (j + i) 0 ∧ ys.getD (j + i) 0 ≤ 100000 ∧ zae cls (ps ++ t) (l[i].length : Int) l[i] 0 (rd cls ((j + i : Nat) : Int)) (ys.getD (j + i) 0))
  | [], j, xs, ps, _, _, _, _ => ⟨xs, [], rfl, rfl, fun _ _ => rfl, fun i h => absurd h (by simp)⟩
  | r :: l, j, xs, ps, hr, hj, hx, hp => by
    have r1 := hr r (by simp)
    rw [List.length_cons] at hj hp
    have c := hc.bd (j : Int)
    obtain ⟨z, t0, h0, ht, z0, z1, ch⟩ := srow hc (len := (r.length : Int)) (by omega) (by omega) r 0 (rd cls (j : Int)) ps r1.2 (by omega) (by omega) c.1 (by omega) (by omega)
    obtain ⟨ys, t, h, hl, hlo, hhi⟩ := sgo hc l (j + 1) (xs.set j z) (ps ++ t0) (fun x h => hr x (by simp [h])) (by omega) (by rw [List.length_set, hx]) (by rw [List.length_append]; omega)
    refine ⟨ys, t0 ++ t, ?_, by rw [hl, List.length_set], fun i hi => ?_, fun i hi => ?_⟩
    · rw [canon_split.go, if_pos (by omega), h0, Option.bind_some]; exact h
    · rw [hlo i (by omega), List.getD_eq_getElem?_getD, List.getElem?_set_ne (by omega), ← List.getD_eq_getElem?_getD]
    · cases i with
      | zero =>
        have e : ys.getD j 0 = z := by
          rw [hlo j (by omega), List.getD_eq_getElem?_getD, List.getElem?_set_self (by omega)]; rfl
        show 0 ≤ ys.getD j 0 ∧ ys.getD j 0 ≤ 100000 ∧ zae cls (ps ++ (t0 ++ t)) (r.length : Int) r 0 (rd cls (j : Int)) (ys.getD j 0)
        rw [e, ← List.append_assoc]
        exact ⟨z0, z1, ch.more⟩
      | succ i =>
        have := hhi i (by simpa using hi)
        rw [show j + 1 + i = j + (i + 1) by omega, List.append_assoc] at this
        exact this
theorem zfg {n L : Nat} {nx : List (List Int)} {bc : List Bool} (R : Mk bc nx L) (en : n = bc.length) (ns : List ByteArray) (ac : List Bool) {cls : List Int} (hl : cls.length = n) (hc : Sm cls) :
    ∃ out : List Int, canon_split.f ns ac nx cls = some (out, ((dd out).length : Int)) ∧ out.length = n ∧ (∀ x ∈ out, 0 ≤ x ∧ x < (n : Int)) ∧
      ∀ p q (hp : p < n) (hq : q < n), out.getD p 0 = out.getD q 0 ↔ (cls.getD p 0 = cls.getD q 0 ∧ ∀ a, a < L → rd cls ((nx.getD p []).getD a 0) = rd cls ((nx.getD q []).getD a 0)) := by
  subst en
  have hn := R.n2
  have hnl := R.len
  obtain ⟨ys, t, h, yl, _, hy⟩ := sgo hc nx 0 (List.replicate cls.length 0) [] (fun r hr => ⟨by rw [(R.rows r hr).1]; exact R.l2, by rw [hl]; exact (R.rows r hr).2⟩) (by omega) (by simp) (by simp; omega)
  rw [List.length_replicate, hl] at yl
  have yw : ∀ x ∈ ys, 0 ≤ x ∧ x ≤ 100000 := by
    intro x hx
    obtain ⟨i, hi, rfl⟩ := List.mem_iff_getElem.1 hx
    have := hy i (by omega)
    rw [Nat.zero_add, List.getD_eq_getElem?_getD, List.getElem?_eq_getElem hi] at this
    exact ⟨this.1, this.2.1⟩
  have D := zfm (l := ys) (by omega) (fun x hx => zc0 (yw x hx).1 (by have := (yw x hx).2; omega))
  have inj : ∀ x ∈ ys, ∀ y ∈ ys, (((dd ys).idxOf x : Nat) : Int) = (((dd ys).idxOf y : Nat) : Int) → x = y := fun x hx y hy' e => zd0 (zan.2 hx) (zan.2 hy') (by omega)
  have dl := zcl ys
  refine ⟨ys.map (fun x => (((dd ys).idxOf x : Nat) : Int)), ?_, by simp [yl], fun x hx => ?_, fun p q hp hq => ?_⟩
  · rw [dd_map _ _ inj, List.length_map]
    unfold canon_split.f
    rw [if_pos (by omega), h, Option.bind_some, D]
  · obtain ⟨y, hy1, rfl⟩ := List.mem_map.1 hx
    have := List.idxOf_lt_length_of_mem (zan.2 hy1)
    omega
  · have gp : ∀ p, p < bc.length → (ys.map (fun x => (((dd ys).idxOf x : Nat) : Int))).getD p 0 = (((dd ys).idxOf (ys.getD p 0) : Nat) : Int) := by
      intro p hp
      have c : p < ys.length := by omega
      rw [List.getD_eq_getElem?_getD, List.getElem?_map, List.getD_eq_getElem?_getD, List.getElem?_eq_getElem c]; rfl
    rw [gp p hp, gp q hq]
    have mem : ∀ p, p < bc.length → ys.getD p 0 ∈ ys := by
      intro p hp
      rw [List.getD_eq_getElem?_getD, List.getElem?_eq_getElem (by omega)]; exact List.getElem_mem _
    have rw_ : ∀ p (_ : p < bc.length), nx.getD p [] = nx[p]'(by omega) ∧ (nx.getD p []).length = L := by
      intro p hp
      rw [List.getD_eq_getElem?_getD, List.getElem?_eq_getElem (by omega)]
      exact ⟨rfl, (R.rows _ (List.getElem_mem _)).1⟩
    obtain ⟨ep, lp⟩ := rw_ p hp
    obtain ⟨eq, lq⟩ := rw_ q hq
    obtain ⟨_, _, cp⟩ := hy p (by omega)
    obtain ⟨_, _, cq⟩ := hy q (by omega)
    rw [Nat.zero_add, ← ep, lp] at cp
    rw [Nat.zero_add, ← eq, lq] at cq
    have rdn : ∀ i : Nat, rd cls (i : Int) = cls.getD i 0 := fun i => zab cls i
    rw [rdn] at cp cq
    have bp := hc.bd (p : Int)
    have bq := hc.bd (q : Int)
    rw [rdn] at bp bq
    have maps : (nx.getD p []).map (rd cls) = (nx.getD q []).map (rd cls) ↔ ∀ a, a < L → rd cls ((nx.getD p []).getD a 0) = rd cls ((nx.getD q []).getD a 0) := by
      constructor
      · intro e a ha
        have := congrArg (fun l => l[a]?) e
        simp only [List.getElem?_map] at this
        have c1 : a < (nx.getD p []).length := by omega
        have c2 : a < (nx.getD q []).length := by omega
        generalize nx.getD p [] = u at *
        generalize nx.getD q [] = v at *
        rw [List.getElem?_eq_getElem c1, List.getElem?_eq_getElem c2] at this
        rw [List.getD_eq_getElem?_getD, List.getElem?_eq_getElem c1, List.getD_eq_getElem?_getD, List.getElem?_eq_getElem c2]
        simpa using this
      · intro e
        refine List.ext_getElem (by rw [List.length_map, List.length_map, lp, lq]) (fun a h1 h2 => ?_)
        rw [List.length_map, lp] at h1
        have := e a h1
        have c1 : a < (nx.getD p []).length := by omega
        have c2 : a < (nx.getD q []).length := by omega
        generalize nx.getD p [] = u at *
        generalize nx.getD q [] = v at *
        rw [List.getD_eq_getElem?_getD, List.getElem?_eq_getElem c1, List.getD_eq_getElem?_getD, List.getElem?_eq_getElem c2] at this
        simpa using this
    constructor
    · intro e
      have e1 := inj _ (mem p hp) _ (mem q hq) e
      rw [e1] at cp
      obtain ⟨a1, a2⟩ := zae.back (by omega) (by omega) bp.1 bq.1 cp cq
      exact ⟨a1, maps.1 a2⟩
    · rintro ⟨a1, a2⟩
      rw [a1] at cp
      rw [zae.same (maps.2 a2) cp cq]
end Go.Proofs.Ythgoonohpfoagaa.Pure
namespace Go.Proofs.Ythgoonohpfoagaa.Pure
open Go.RowKit Go.Proofs.YthgoonohpfoagaaW.PrintWords Go.Proofs.YthgoonohpfoagaaW.PrintLast Go.Proofs.YthgoonohpfoagaaW.PrintMore Go.Proofs.Ythgoonohpfoagaa.X
set_option linter.unusedVariables false
structure Lab (r : Nat → Nat → Prop) (n : Nat) (l : List Int) : Prop where
  len : l.length = n
  sm : Sm l
  iff : ∀ p q, p < n → q < n → (l.getD p 0 = l.getD q 0 ↔ r p q)
theorem gD {l : List Int} {p : Nat} (h : p < l.length) : l.getD p 0 = l[p] := by simp [List.getD_eq_getElem?_getD, h]
theorem za9 {l : List Int} {i p : Nat} {v : Int} (h : i < l.length) : (l.set i v).getD p 0 = if p = i then v else l.getD p 0 := by
  by_cases c : p = i
  · subst c
    rw [if_pos rfl, List.getD_eq_getElem?_getD, List.getElem?_set_self h]; rfl
  · rw [if_neg c, List.getD_eq_getElem?_getD, List.getElem?_set_ne (by omega), ← List.getD_eq_getElem?_getD]
theorem Lab.finer {r s : Nat → Nat → Prop} {n : Nat} {l l' : List Int} (h : Lab r n l) (k : Lab s n l') (f : ∀ p q, p < n → q < n → s p q → r p q) :
    (dd l).length ≤ (dd l').length ∧ ((dd l).length = (dd l').length → ∀ p q, p < n → q < n → r p q → s p q) := by
  have hl : l.length = l'.length := h.len.trans k.len.symm
  obtain ⟨a, b⟩ := Pure.finer (m := l) (m' := l') hl (fun p q hp hq e => by
    have hp' := h.len ▸ hp
    have hq' := h.len ▸ hq
    rw [← gD, ← gD, k.iff p q hp' hq'] at e
    rw [← gD hp, ← gD hq, h.iff p q hp' hq']
    exact f p q hp' hq' e)
  refine ⟨a, fun e p q hp hq x => ?_⟩
  have hp' : p < l.length := by rw [h.len]; exact hp
  have hq' : q < l.length := by rw [h.len]; exact hq
  have := b e p q hp' hq' (by rw [← gD hp', ← gD hq', h.iff p q hp hq]; exact x)
  rw [← gD, ← gD, k.iff p q hp hq] at this
  exact this
theorem Lab.pos {r : Nat → Nat → Prop} {n : Nat} {l : List Int} (h : Lab r n l) (h1 : 1 ≤ n) : 1 ≤ (dd l).length := by
  have m : l[0]'(by rw [h.len]; omega) ∈ dd l := zan.2 (List.getElem_mem _)
  exact List.length_pos_of_mem m
section
variable {ac : List Bool} {nx : List (List Int)} {L : Nat}
theorem Mk.to (m : Mk ac nx L) {q a : Nat} (hq : q < ac.length) (ha : a < L) : dlF nx q a < ac.length := ((m.row hq).2 a ha).2
theorem zch (m : Mk ac nx L) (ns : List ByteArray) {i : Nat} {cls : List Int} (h : Lab (RR (acF ac) (dlF nx) L i) ac.length cls) :
    ∃ out, canon_split.f ns ac nx cls = some (out, ((dd out).length : Int)) ∧ Lab (RR (acF ac) (dlF nx) L (i + 1)) ac.length out := by
  obtain ⟨out, e, l, b, h2⟩ := zfg m rfl ns ac h.len h.sm
  refine ⟨out, e, l, fun x hx => ⟨(b x hx).1, by have := (b x hx).2; have := m.n2; omega⟩, fun p q hp hq => ?_⟩
  rw [h2 p q hp hq, h.iff p q hp hq]
  have r : ∀ p a, rd cls ((nx.getD p []).getD a 0) = cls.getD (dlF nx p a) 0 := fun p a => by simp [rd, dlF]
  constructor
  · rintro ⟨h1, h3⟩
    refine ⟨h1, fun a ha => ?_⟩
    have := h3 a ha
    rw [r, r] at this
    exact (h.iff _ _ (m.to hp ha) (m.to hq ha)).1 this
  · rintro ⟨h1, h3⟩
    refine ⟨h1, fun a ha => ?_⟩
    rw [r, r]
    exact (h.iff _ _ (m.to hp ha) (m.to hq ha)).2 (h3 a ha)
theorem cl1 (m : Mk ac nx L) (ns : List ByteArray) : ∀ (d i : Nat) (cls : List Int), Lab (RR (acF ac) (dlF nx) L i) ac.length cls → 257 ≤ (dd cls).length + d →
    ∃ out, Lab (EE (acF ac) (dlF nx) L) ac.length out ∧ Ev (fun k => canon_classes.l1 k cls ((dd cls).length : Int) ns ac nx) out := by
  intro d
  induction d with
  | zero =>
    intro i cls h hd
    have := zcl cls
    have := h.len
    have := m.n2
    omega
  | succ d ih =>
    intro i cls h hd
    obtain ⟨out, e, hL⟩ := zch m ns h
    have f := h.finer hL (fun p q _ _ x => x.1)
    by_cases c : ((dd out).length : Int) = ((dd cls).length : Int)
    · have st := f.2 (by omega)
      refine ⟨out, ⟨hL.len, hL.sm, fun p q hp hq => ?_⟩, Ev.step (fun k => by rw [canon_classes.l1]) (Ev.ret e (Ev.cond c (Ev.fin rfl)))⟩
      rw [hL.iff p q hp hq]
      exact ⟨fun x => EE.of_stays (fun q hq a ha => m.to hq ha) st hp hq x.1, fun x => x _⟩
    · obtain ⟨o, hE, hev⟩ := ih (i + 1) out hL (by have := f.1; omega)
      exact ⟨o, hE, Ev.step (fun k => by rw [canon_classes.l1]) (Ev.ret e (Ev.ncond c hev))⟩
theorem cl0 (m : Mk ac nx L) (ns : List ByteArray) : ∀ (d i : Nat) (x : List Int), i + d = ac.length → x.length = ac.length → (∀ p, p < ac.length → x.getD p 0 = if p < i ∧ acF ac p = true then 1 else 0) →
    ∃ out, Lab (EE (acF ac) (dlF nx) L) ac.length out ∧ Ev (fun k => canon_classes.l0 k x ac (ac.length : Int) (i : Int) ns ac nx) out := by
  have n2 := m.n2
  intro d
  induction d with
  | zero =>
    intro i x hi hx h
    have hL : Lab (RR (acF ac) (dlF nx) L 0) ac.length x := by
      refine ⟨hx, fun y hy => ?_, fun p q hp hq => ?_⟩
      · obtain ⟨p, hp, rfl⟩ := List.mem_iff_getElem.1 hy
        rw [← gD hp, h p (by omega)]
        split <;> omega
      · rw [h p hp, h q hq]
        show _ ↔ acF ac p = acF ac q
        cases acF ac p <;> cases acF ac q <;> simp <;> omega
    obtain ⟨out, e, hL2⟩ := zch m ns hL
    have := hL2.pos m.n1
    have := zcl out
    obtain ⟨o, hE, hev⟩ := cl1 m ns 257 1 out hL2 (by omega)
    exact ⟨o, hE, Ev.step (fun k => by rw [canon_classes.l0]) (Ev.ncond (by omega) (Ev.step (fun k => by rw [canon_classes.l1]) (Ev.ret e (Ev.ncond (show ¬ ((dd out).length : Int) = 0 by omega) hev))))⟩
  | succ d ih =>
    intro i x hi hx h
    have ii : i < ac.length := by omega
    have wi : wrap64 ((i : Int) + 1) = ((i + 1 : Nat) : Int) := by rw [w64 (by omega) (by omega)]; omega
    by_cases c : rdOf false ac (i : Int) = true
    · obtain ⟨o, hE, hev⟩ := ih (i + 1) (x.set i 1) (by omega) (by rw [List.length_set, hx]) (fun p hp => by
        rw [za9 (by omega), h p hp]
        rw [m.acc ii] at c
        by_cases e : p = i
        · subst e; rw [if_pos rfl, if_pos ⟨by omega, c⟩]
        · rw [if_neg e]
          by_cases e2 : p < i ∧ acF ac p = true
          · rw [if_pos e2, if_pos ⟨by omega, e2.2⟩]
          · rw [if_neg e2, if_neg (fun z => e2 ⟨by omega, z.2⟩)])
      refine ⟨o, hE, Ev.step (fun k => by rw [canon_classes.l0]) (Ev.cond (by omega) (Ev.cond (by omega) (Ev.cond (by omega) (Ev.cond c (Ev.cond (by omega) ?_)))))⟩
      rw [wi, Int.toNat_natCast]; exact hev
    · obtain ⟨o, hE, hev⟩ := ih (i + 1) x (by omega) hx (fun p hp => by
        rw [h p hp]
        rw [m.acc ii] at c
        by_cases e2 : p < i ∧ acF ac p = true
        · rw [if_pos e2, if_pos ⟨by omega, e2.2⟩]
        · rw [if_neg e2, if_neg (fun z => by
            by_cases e : p = i
            · subst e; exact c z.2
            · exact e2 ⟨by omega, z.2⟩)])
      refine ⟨o, hE, Ev.step (fun k => by rw [canon_classes.l0]) (Ev.cond (by omega) (Ev.cond (by omega) (Ev.cond (by omega) (Ev.ncond c ?_))))⟩
      rw [wi]; exact hev
theorem zeg (m : Mk ac nx L) (ns : List ByteArray) : ∃ out, Lab (EE (acF ac) (dlF nx) L) ac.length out ∧ Ev (fun k => canon_classes.f k ns ac nx) out := by
  have n2 := m.n2
  obtain ⟨o, hE, hev⟩ := cl0 m ns ac.length 0 (List.replicate ac.length 0) (by omega) (by simp) (fun p hp => by
    rw [if_neg (fun z => absurd z.1 (by omega)), gD (by simpa using hp), List.getElem_replicate])
  refine ⟨o, hE, Ev.congr (fun k => by rw [canon_classes.f]) (Ev.cond (by omega) (Ev.cond (by omega) ?_))⟩
  rw [Int.toNat_natCast]; exact hev
theorem zfx {l : List Int} (hl : l.length ≤ 9000000000000000000) {q : Nat} (hq : q < l.length) : ∃ p : Nat, p ≤ q ∧ l.getD p 0 = l.getD q 0 ∧ (∀ p', p' < p → ¬ l.getD p' 0 = l.getD q 0) ∧ Ev (fun k => slices_Index_int_int.f k l (l.getD q 0)) (p : Int) := by
  have key : ∀ (d i : Nat), i + d = q → (∀ p', p' < i → ¬ l.getD p' 0 = l.getD q 0) → ∃ p : Nat, p ≤ q ∧ l.getD p 0 = l.getD q 0 ∧ (∀ p', p' < p → ¬ l.getD p' 0 = l.getD q 0) ∧ Ev (fun k => slices_Index_int_int.l0 k l (l.getD q 0) (l.length : Int) (i : Int)) (p : Int) := by
    intro d
    induction d with
    | zero =>
      intro i hi h
      have e : i = q := by omega
      subst e
      refine ⟨i, Nat.le_refl _, rfl, h, Ev.step (fun k => by rw [slices_Index_int_int.l0]) (Ev.cond (by omega) (Ev.cond (by omega) (Ev.cond (by omega) (Ev.cond ?_ (Ev.fin rfl)))))⟩
      rw [zab]
    | succ d ih =>
      intro i hi h
      by_cases c : l.getD i 0 = l.getD q 0
      · refine ⟨i, by omega, c, h, Ev.step (fun k => by rw [slices_Index_int_int.l0]) (Ev.cond (by omega) (Ev.cond (by omega) (Ev.cond (by omega) (Ev.cond ?_ (Ev.fin rfl)))))⟩
        rw [zab, c]
      · obtain ⟨p, h1, h2, h3, h4⟩ := ih (i + 1) (by omega) (fun p' hp' => by
          by_cases e : p' = i
          · subst e; exact c
          · exact h p' (by omega))
        refine ⟨p, h1, h2, h3, Ev.step (fun k => by rw [slices_Index_int_int.l0]) (Ev.cond (by omega) (Ev.cond (by omega) (Ev.cond (by omega) (Ev.ncond ?_ ?_))))⟩
        · rw [zab]; exact fun e => c e.symm
        · rw [w64 (by omega) (by omega)]; exact h4
  obtain ⟨p, h1, h2, h3, h4⟩ := key q 0 (by omega) (fun p' h => absurd h (by omega))
  exact ⟨p, h1, h2, h3, Ev.congr (fun k => by rw [slices_Index_int_int.f]; rfl) h4⟩
def zga (r : Nat → Nat → Prop) (i : Nat) (l : List Int) : Prop := ∀ q, q < i → ∃ p : Nat, l.getD q 0 = (p : Int) ∧ p ≤ q ∧ r p q ∧ ∀ p', p' < p → ¬ r p' q
theorem zef {ns : List ByteArray} (hs : SZ ns) (hr : RZ nx) (d : DOk ns ac nx) (m : Mk ac nx L) : ∃ l, Least (EE (acF ac) (dlF nx) L) ac.length l ∧ Ev (fun k => canon_Classes.f k ns ac nx) (l, 0) := by
  have n2 := m.n2
  obtain ⟨c, hE, hev⟩ := zeg m ns
  have hc := hE.len
  have key : ∀ (e i : Nat) (x : List Int), i + e = ac.length → x.length = ac.length → zga (EE (acF ac) (dlF nx) L) i x → ∃ l, Least (EE (acF ac) (dlF nx) L) ac.length l ∧ Ev (fun k => canon_Classes.l0 k c x c (c.length : Int) (i : Int)) (l, 0) := by
    intro e
    induction e with
    | zero =>
      intro i x hi hx h
      have e : i = ac.length := by omega
      subst e
      exact ⟨x, ⟨hx, h⟩, Ev.step (fun k => by rw [canon_Classes.l0]) (Ev.ncond (by omega) (Ev.fin rfl))⟩
    | succ e ih =>
      intro i x hi hx h
      obtain ⟨p, h1, h2, h3, h4⟩ := zfx (l := c) (by omega) (q := i) (by omega)
      obtain ⟨l, hl, hv⟩ := ih (i + 1) (x.set i (p : Int)) (by omega) (by rw [List.length_set, hx]) (fun q hq => by
        by_cases e : q = i
        · subst e
          refine ⟨p, by rw [za9 (by omega), if_pos rfl], h1, (hE.iff p q (by omega) (by omega)).1 h2, fun p' hp' z => h3 p' hp' ((hE.iff p' q (by omega) (by omega)).2 z)⟩
        · obtain ⟨p2, g⟩ := h q (by omega)
          exact ⟨p2, by rw [za9 (by omega), if_neg e]; exact g.1, g.2⟩)
      refine ⟨l, hl, Ev.step (fun k => by rw [canon_Classes.l0]) (Ev.cond (by omega) (Ev.cond (by omega) (Ev.cond (by omega) ?_)))⟩
      rw [zab]
      refine Ev.bind h4 (Ev.cond (by omega) ?_)
      rw [w64 (by omega) (by omega), Int.toNat_natCast]; exact hv
  obtain ⟨l, hl, hv⟩ := key ac.length 0 (List.replicate c.length 0) (by omega) (by simp [hc]) (fun q hq => absurd hq (by omega))
  refine ⟨l, hl, Ev.congr (fun k => by rw [canon_Classes.f]) (Ev.bind (zfl hs hr d) (Ev.cond rfl (Ev.bind hev ?_)))⟩
  refine Ev.cond (by omega) (Ev.cond (by omega) ?_)
  rw [Int.toNat_natCast]; exact hv
end
end Go.Proofs.Ythgoonohpfoagaa.Pure
namespace Go.Proofs.Ythgoonohpfoagaa.Pure
open Go.RowKit Go.Proofs.YthgoonohpfoagaaW.PrintWords Go.Proofs.YthgoonohpfoagaaW.PrintLast Go.Proofs.YthgoonohpfoagaaW.PrintMore Go.Proofs.Ythgoonohpfoagaa.X
set_option linter.unusedVariables false
section
variable (acc : Nat → Bool) (δ : Nat → Nat → Nat) (L : Nat)
def SS : Nat → Nat → Nat → Prop
  | 0, _, _ => True
  | i + 1, p, q => SS i p q ∧ acc p = acc q ∧ ∀ a, a < L → SS i (δ p a) (δ q a)
end
section
variable {acc : Nat → Bool} {δ : Nat → Nat → Nat} {L : Nat}
theorem SS.refl : ∀ (i p : Nat), SS acc δ L i p p
  | 0, _ => trivial
  | i + 1, p => ⟨SS.refl i p, rfl, fun a _ => SS.refl i _⟩
theorem SS.symm : ∀ {i p q : Nat}, SS acc δ L i p q → SS acc δ L i q p
  | 0, _, _, _ => trivial
  | _ + 1, _, _, h => ⟨SS.symm h.1, Eq.symm h.2.1, fun a ha => SS.symm (h.2.2 a ha)⟩
theorem SS.trans : ∀ {i p q r : Nat}, SS acc δ L i p q → SS acc δ L i q r → SS acc δ L i p r
  | 0, _, _, _, _, _ => trivial
  | _ + 1, _, _, _, h, k => ⟨SS.trans h.1 k.1, Eq.trans h.2.1 k.2.1, fun a ha => SS.trans (h.2.2 a ha) (k.2.2 a ha)⟩
theorem SS.stays {n : Nat} (hδ : ∀ q, q < n → ∀ a, a < L → δ q a < n) {i : Nat} (h : ∀ p q, p < n → q < n → SS acc δ L i p q → SS acc δ L (i + 1) p q) : ∀ (j p q : Nat), p < n → q < n → SS acc δ L i p q → SS acc δ L (i + j) p q := by
  intro j
  induction j with
  | zero => intro p q _ _ k; exact k
  | succ j ih => intro p q hp hq k; exact ⟨ih p q hp hq k, (h p q hp hq k).2.1, fun a ha => ih _ _ (hδ p hp a ha) (hδ q hq a ha) ((h p q hp hq k).2.2 a ha)⟩
theorem SS.down : ∀ {j i p q : Nat}, SS acc δ L (i + j) p q → SS acc δ L i p q
  | 0, _, _, _, h => h
  | _ + 1, _, _, _, h => SS.down h.1
end
section
variable {ac : List Bool} {nx : List (List Int)} {L : Nat}
end
end Go.Proofs.Ythgoonohpfoagaa.Pure
namespace Go.Proofs.Ythgoonohpfoagaa.Pure
open Go.RowKit Go.Proofs.YthgoonohpfoagaaW.PrintWords Go.Proofs.YthgoonohpfoagaaW.PrintLast Go.Proofs.YthgoonohpfoagaaW.PrintMore Go.Proofs.Ythgoonohpfoagaa.X
set_option linter.unusedVariables false
theorem DOk.mk' {ns : List ByteArray} {ac : List Bool} {nx : List (List Int)} (d : DOk ns ac nx) : Mk ac nx (2 ^ ns.length) := by
  have := d.fr.tr
  have h := pow6 this
  exact ⟨d.ln, d.fr.n1, d.fr.n2, Nat.two_pow_pos _, h, d.rows⟩
end Go.Proofs.Ythgoonohpfoagaa.Pure
namespace Go.Proofs.Ythgoonohpfoagaa.Pure
open Go.RowKit Go.Proofs.YthgoonohpfoagaaW.PrintWords Go.Proofs.YthgoonohpfoagaaW.PrintLast Go.Proofs.YthgoonohpfoagaaW.PrintMore Go.Proofs.Ythgoonohpfoagaa.X
set_option linter.unusedVariables false
section
variable (f : Nat → Nat → Nat) (L : Nat)
def mid (ms : List Nat) (q : Nat) : Nat → List Nat
  | 0 => ms
  | a + 1 => nm (mid ms q a) (f q a)
def bf : Nat → List Nat
  | 0 => [0]
  | j + 1 => mid f (bf j) ((bf j).getD j 0) L
def qa (j : Nat) : Nat := (bf f L j).getD j 0
def rwn (j a : Nat) : Nat := num1 (bf f L (j + 1)) (f (qa f L j) a)
structure End (K : Nat) : Prop where
  pos : 1 ≤ K
  len : (bf f L K).length = K
  on : ∀ i, i < K → i < (bf f L i).length
end
section
variable {f : Nat → Nat → Nat} {L : Nat}
theorem zbm (ms : List Nat) (q : Nat) {a b : Nat} (h : a ≤ b) : ∃ t, mid f ms q b = mid f ms q a ++ t := by
  induction b with
  | zero => rw [Nat.le_zero.1 h]; exact ⟨[], by simp⟩
  | succ b ih =>
    by_cases c : a = b + 1
    · rw [c]; exact ⟨[], by simp⟩
    · obtain ⟨t, ht⟩ := ih (by omega)
      obtain ⟨u, hu⟩ := zc8 (mid f ms q b) (f q b)
      exact ⟨t ++ u, by rw [mid, hu, ht, List.append_assoc]⟩
theorem zbz {i j : Nat} (h : i ≤ j) : ∃ t, bf f L j = bf f L i ++ t := by
  induction j with
  | zero => rw [Nat.le_zero.1 h]; exact ⟨[], by simp⟩
  | succ j ih =>
    by_cases c : i = j + 1
    · rw [c]; exact ⟨[], by simp⟩
    · obtain ⟨t, ht⟩ := ih (by omega)
      obtain ⟨u, hu⟩ := zbm (f := f) (bf f L j) ((bf f L j).getD j 0) (Nat.zero_le L)
      exact ⟨t ++ u, by rw [bf, hu, mid, ht, List.append_assoc]⟩
theorem zb7 {ms : List Nat} (h : ms.Nodup) (q : Nat) : ∀ a, (mid f ms q a).Nodup
  | 0 => h
  | a + 1 => zcy (zb7 h q a) _
theorem zbv : ∀ j, (bf f L j).Nodup
  | 0 => by simp [bf]
  | j + 1 => zb7 (zbv j) _ _
theorem bf_lt {n : Nat} (n1 : 0 < n) (hf : ∀ q a, q < n → a < L → f q a < n) : ∀ j, ∀ x ∈ bf f L j, x < n := by
  intro j
  induction j with
  | zero => intro x hx; simp [bf] at hx; omega
  | succ j ih =>
    have q1 : (bf f L j).getD j 0 < n := by
      rw [List.getD_eq_getElem?_getD]
      by_cases c : j < (bf f L j).length
      · rw [List.getElem?_eq_getElem c]; exact ih _ (List.getElem_mem c)
      · rw [List.getElem?_eq_none (by omega)]; exact n1
    have key : ∀ a, a ≤ L → ∀ x ∈ mid f (bf f L j) ((bf f L j).getD j 0) a, x < n := by
      intro a
      induction a with
      | zero => intro _ x hx; exact ih x hx
      | succ a ih2 =>
        intro ha x hx
        rcases za7.1 hx with h | h
        · exact ih2 (by omega) x h
        · rw [h]; exact hf _ _ q1 (by omega)
    exact key L (Nat.le_refl _)
theorem zcv {n : Nat} (n1 : 0 < n) (hf : ∀ q a, q < n → a < L → f q a < n) (j : Nat) : (bf f L j).length ≤ n := by
  have := zb8 (zbv (f := f) (L := L) j) (T := List.range n) (fun x hx => List.mem_range.2 (bf_lt n1 hf j x hx))
  simpa using this
theorem zds {i j : Nat} (h : i ≤ j) : (bf f L i).length ≤ (bf f L j).length := by
  obtain ⟨t, ht⟩ := zbz (f := f) (L := L) h
  rw [ht, List.length_append]; omega
theorem zd3 {n : Nat} (n1 : 0 < n) (hf : ∀ q a, q < n → a < L → f q a < n) : ∃ K, K ≤ n ∧ End f L K := by
  have key : ∀ (d i : Nat), i + d = n → (∀ i', i' < i → i' < (bf f L i').length) → ∃ K, K ≤ n ∧ End f L K := by
    intro d
    induction d with
    | zero =>
      intro i hi h
      have := zcv n1 hf i
      refine ⟨i, by omega, by omega, ?_, h⟩
      have a := h (i - 1) (by omega)
      have b := zds (f := f) (L := L) (show i - 1 ≤ i by omega)
      omega
    | succ d ih =>
      intro i hi h
      by_cases c : i < (bf f L i).length
      · exact ih (i + 1) (by omega) (fun i' hi' => by
          by_cases e : i' = i
          · subst e; exact c
          · exact h i' (by omega))
      · have i1 : 1 ≤ i := by
          rcases Nat.eq_zero_or_pos i with z | z
          · subst z; exact absurd (show 0 < (bf f L 0).length from by simp [bf]) c
          · exact z
        refine ⟨i, by omega, i1, ?_, h⟩
        have a := h (i - 1) (by omega)
        have b := zds (f := f) (L := L) (show i - 1 ≤ i by omega)
        omega
  exact key n 0 (by omega) (fun i' h => absurd h (by omega))
theorem ze7 {l m t : List Nat} (e : l = m ++ t) {j : Nat} (h : j < m.length) : l.getD j 0 = m.getD j 0 := by
  subst e
  rw [List.getD_eq_getElem?_getD, List.getElem?_append_left h, ← List.getD_eq_getElem?_getD]
theorem End.at_ {K : Nat} (E : End f L K) {i j : Nat} (h : j < K) (hi : j ≤ i) (hK : i ≤ K) : (bf f L i).getD j 0 = qa f L j := by
  obtain ⟨t, ht⟩ := zbz (f := f) (L := L) hi
  exact ze7 ht (E.on j h)
theorem zdp (ms : List Nat) (q : Nat) {a b : Nat} (h : a < b) : f q a ∈ mid f ms q b := by
  obtain ⟨t, ht⟩ := zbm (f := f) ms q (show a + 1 ≤ b from h)
  rw [ht]
  exact List.mem_append_left _ (za7.2 (.inr rfl))
theorem zc9 {j a : Nat} (h : a < L) : f (qa f L j) a ∈ bf f L (j + 1) := zdp (f := f) (bf f L j) (qa f L j) h
theorem End.mem {K : Nat} (E : End f L K) {j a : Nat} (hj : j < K) (h : a < L) : f (qa f L j) a ∈ bf f L K := by
  obtain ⟨t, ht⟩ := zbz (f := f) (L := L) (show j + 1 ≤ K from hj)
  rw [ht]; exact List.mem_append_left _ (zc9 h)
theorem End.num {K : Nat} (E : End f L K) {j a : Nat} (hj : j < K) (h : a < L) : rwn f L j a = num1 (bf f L K) (f (qa f L j) a) := by
  obtain ⟨t, ht⟩ := zbz (f := f) (L := L) (show j + 1 ≤ K from hj)
  rw [ht, zaw (zc9 h)]; rfl
theorem End.num_lt {K : Nat} (E : End f L K) {j a : Nat} (hj : j < K) (h : a < L) : rwn f L j a < K := by
  rw [E.num hj h]
  have := zau (E.mem hj h)
  rwa [E.len] at this
theorem zb3 {α : Type} [DecidableEq α] {ms : List α} {x : α} (h : x ∈ ms) : ms[num1 ms x]'(zau h) = x := List.getElem_idxOf (zau h)
theorem End.qa_mem {K : Nat} (E : End f L K) {j : Nat} (hj : j < K) : qa f L j ∈ bf f L K := by
  have := E.at_ hj (Nat.le_of_lt hj) (Nat.le_refl _)
  rw [List.getD_eq_getElem?_getD, List.getElem?_eq_getElem (by rw [E.len]; exact hj)] at this
  rw [← this]; exact List.getElem_mem _
theorem End.back {K : Nat} (E : End f L K) {j a : Nat} (hj : j < K) (h : a < L) : qa f L (rwn f L j a) = f (qa f L j) a := by
  have m := E.mem hj h
  have e := zb3 m
  have lt := E.num_lt hj h
  rw [← E.at_ lt (Nat.le_of_lt lt) (Nat.le_refl _), List.getD_eq_getElem?_getD, List.getElem?_eq_getElem (by rw [E.len]; exact lt)]
  show (bf f L K)[rwn f L j a]'_ = _
  simp only [E.num hj h]
  exact e
theorem bf_led : ∀ j, ∀ x ∈ bf f L j, x = 0 ∨ ∃ i a, i < j ∧ a < L ∧ x = f (qa f L i) a := by
  intro j
  induction j with
  | zero => intro x hx; simp [bf] at hx; exact .inl hx
  | succ j ih =>
    have key : ∀ b, b ≤ L → ∀ x ∈ mid f (bf f L j) (qa f L j) b, x = 0 ∨ ∃ i a, i < j + 1 ∧ a < L ∧ x = f (qa f L i) a := by
      intro b
      induction b with
      | zero =>
        intro _ x hx
        rcases ih x hx with h | ⟨i, a, h1, h2, h3⟩
        · exact .inl h
        · exact .inr ⟨i, a, by omega, h2, h3⟩
      | succ b ih2 =>
        intro hb x hx
        rcases za7.1 hx with h | h
        · exact ih2 (by omega) x h
        · exact .inr ⟨j, b, by omega, by omega, h⟩
    exact key L (Nat.le_refl _)
end
section
variable {f g : Nat → Nat → Nat} {L : Nat} {X : Nat → Nat → Prop}
structure Pair (X : Nat → Nat → Prop) (l m : List Nat) : Prop where
  len : l.length = m.length
  at_ : ∀ i, i < l.length → X (l.getD i 0) (m.getD i 0)
theorem Pair.mem {l m : List Nat} (h : Pair X l m) (u : ∀ p q y, X p y → X q y → p = q) (v : ∀ p y z, X p y → X p z → y = z) {x y : Nat} (k : X x y) : (x ∈ l ↔ y ∈ m) := by
  constructor
  · intro c
    obtain ⟨i, hi, e⟩ := List.mem_iff_getElem.1 c
    have := h.at_ i hi
    rw [List.getD_eq_getElem?_getD, List.getElem?_eq_getElem hi, Option.getD_some, e, List.getD_eq_getElem?_getD, List.getElem?_eq_getElem (by rw [← h.len]; exact hi), Option.getD_some] at this
    rw [v _ _ _ k this]; exact List.getElem_mem _
  · intro c
    obtain ⟨i, hi, e⟩ := List.mem_iff_getElem.1 c
    have hi' : i < l.length := by rw [h.len]; exact hi
    have := h.at_ i hi'
    rw [List.getD_eq_getElem?_getD, List.getElem?_eq_getElem hi', Option.getD_some, List.getD_eq_getElem?_getD, List.getElem?_eq_getElem hi, Option.getD_some, e] at this
    rw [u _ _ _ k this]; exact List.getElem_mem _
theorem Pair.num {l m : List Nat} (h : Pair X l m) (nl : l.Nodup) (u : ∀ p q y, X p y → X q y → p = q) (v : ∀ p y z, X p y → X p z → y = z) {x y : Nat} (k : X x y) (c : x ∈ l) : num1 l x = num1 m y := by
  have lt := zau c
  have cm := (h.mem u v k).1 c
  have lt2 := zau cm
  have e := zb3 c
  have e2 := zb3 cm
  have a := h.at_ (num1 m y) (by rw [h.len]; exact lt2)
  rw [List.getD_eq_getElem?_getD, List.getElem?_eq_getElem (by rw [h.len]; exact lt2), Option.getD_some, List.getD_eq_getElem?_getD, List.getElem?_eq_getElem lt2, Option.getD_some, e2] at a
  have s := u _ _ _ k a
  rw [s]
  exact nl.idxOf_getElem _ _
end
end Go.Proofs.Ythgoonohpfoagaa.Pure
namespace Go.Proofs.Ythgoonohpfoagaa.Pure
open Go.RowKit Go.Proofs.YthgoonohpfoagaaW.PrintWords Go.Proofs.YthgoonohpfoagaaW.PrintLast Go.Proofs.YthgoonohpfoagaaW.PrintMore Go.Proofs.Ythgoonohpfoagaa.X
set_option linter.unusedVariables false
def toZ (l : List Nat) : List Int := l.map (fun x : Nat => (x : Int))
theorem zdc {a : Nat} (h : a ≤ 1000) : wrap64 ((a : Int) + 1) = ((a + 1 : Nat) : Int) := by unfold wrap64; omega
theorem zb4 (l : List Nat) : (toZ l).length = l.length := by simp [toZ]
theorem toZ_at (l : List Nat) {j : Nat} (h : j < l.length) : rd (toZ l) (j : Int) = ((l.getD j 0 : Nat) : Int) := by
  rw [zab]
  simp [toZ, List.getD_eq_getElem?_getD, h]
theorem ze8 (l : List Nat) (x : Nat) : toZ l ++ [(x : Int)] = toZ (l ++ [x]) := by simp [toZ]
theorem zen {α : Type} [DecidableEq α] {ms : List α} {x : α} (h : ¬ x ∈ ms) : num1 (ms ++ [x]) x = ms.length := by rw [num1, List.idxOf_append, if_neg h]; simp
structure Num (n : Nat) (num : List Int) (ms : List Nat) : Prop where
  len : num.length = n
  at_ : ∀ x, x < n → num.getD x 0 = if x ∈ ms then ((num1 ms x : Nat) : Int) else -1
theorem Num.neg {n : Nat} {num : List Int} {ms : List Nat} (h : Num n num ms) {x : Nat} (hx : x < n) : rd num (x : Int) < 0 ↔ ¬ x ∈ ms := by
  rw [zab, h.at_ x hx]
  split
  · exact ⟨fun z => absurd z (by omega), fun z => absurd ‹_› z⟩
  · exact ⟨fun _ => ‹_›, fun _ => by omega⟩
theorem Num.put {n : Nat} {num : List Int} {ms : List Nat} (h : Num n num ms) {x : Nat} (hx : x < n) (k : ¬ x ∈ ms) : Num n (num.set x (ms.length : Int)) (ms ++ [x]) := by
  refine ⟨by rw [List.length_set, h.len], fun y hy => ?_⟩
  rw [za9 (by rw [h.len]; exact hx)]
  by_cases e : y = x
  · subst e
    rw [if_pos rfl, if_pos (by simp), zen k]
  · rw [if_neg e, h.at_ y hy]
    by_cases c : y ∈ ms
    · rw [if_pos c, if_pos (by simp [c]), zaw c]
    · rw [if_neg c, if_neg (by simp [c, e])]
def fC (cl : List Int) (nx : List (List Int)) (q a : Nat) : Nat := (cl.getD (dlF nx q a) 0).toNat
def acs (ac : List Bool) (f : Nat → Nat → Nat) (L K : Nat) : List Bool := (List.range K).map fun i => acF ac (qa f L i)
def rws (f : Nat → Nat → Nat) (L K : Nat) : List (List Int) := (List.range K).map fun i => (List.range L).map fun a => ((rwn f L i a : Nat) : Int)
theorem zfn (ac : List Bool) (f : Nat → Nat → Nat) (L K : Nat) : acs ac f L (K + 1) = acs ac f L K ++ [acF ac (qa f L K)] := by simp [acs, List.range_succ]
theorem zfh (f : Nat → Nat → Nat) (L K : Nat) : rws f L (K + 1) = rws f L K ++ [(List.range L).map fun a => ((rwn f L K a : Nat) : Int)] := by simp [rws, List.range_succ]
theorem zao (ac : List Bool) (f : Nat → Nat → Nat) (L K : Nat) : (acs ac f L K).length = K := by simp [acs]
theorem zdv (f : Nat → Nat → Nat) (L K : Nat) : (rws f L K).length = K := by simp [rws]
theorem zcp (g : Nat → Int) {a L : Nat} (h : a < L) : (((List.range a).map g ++ List.replicate (L - a) 0).set a (g a)) = (List.range (a + 1)).map g ++ List.replicate (L - (a + 1)) 0 := by
  obtain ⟨d, rfl⟩ : ∃ d, L = a + 1 + d := ⟨L - a - 1, by omega⟩
  rw [show a + 1 + d - a = d + 1 by omega, show a + 1 + d - (a + 1) = d by omega, List.replicate_succ, List.set_append_right _ _ (by simp), List.range_succ, List.map_append]
  simp
section
variable {ac : List Bool} {nx : List (List Int)} {L : Nat} {cl : List Int}
theorem Least.nat {r : Nat → Nat → Prop} {n : Nat} (h : Least r n cl) {x : Nat} (hx : x < n) : cl.getD x 0 = (((cl.getD x 0).toNat : Nat) : Int) ∧ (cl.getD x 0).toNat ≤ x := by
  obtain ⟨p, e, hp, _⟩ := h.at_ x hx
  rw [e]; simp; exact hp
theorem zb0 {r : Nat → Nat → Prop} (m : Mk ac nx L) (h : Least r ac.length cl) {q a : Nat} (hq : q < ac.length) (ha : a < L) : fC cl nx q a < ac.length := by
  have t := m.to hq ha
  have := (h.nat t).2
  unfold fC; omega
theorem fC_rd {r : Nat → Nat → Prop} (m : Mk ac nx L) (h : Least r ac.length cl) {q a : Nat} (hq : q < ac.length) (ha : a < L) : rd cl (rd (rd_L3 nx (q : Int)) (a : Int)) = ((fC cl nx q a : Nat) : Int) := by
  rw [((m.row hq).2 a ha).1, zab]
  exact (h.nat (m.to hq ha)).1
theorem zgo {f : Nat → Nat → Nat} {j a : Nat} (ha : a < L) : rwn f L j a = num1 (mid f (bf f L j) (qa f L j) (a + 1)) (f (qa f L j) a) := by
  obtain ⟨t, ht⟩ := zbm (f := f) (bf f L j) (qa f L j) (show a + 1 ≤ L from ha)
  have e : bf f L (j + 1) = mid f (bf f L j) (qa f L j) (a + 1) ++ t := ht
  rw [rwn, e, zaw (zdp (f := f) _ _ (Nat.lt_succ_self a))]
theorem zd5 {r : Nat → Nat → Prop} (m : Mk ac nx L) (h : Least r ac.length cl) {K : Nat} (E : End (fC cl nx) L K) {j : Nat} (hj : j < K) : qa (fC cl nx) L j < ac.length :=
  bf_lt m.n1 (fun q a hq ha => zb0 m h hq ha) K _ (E.qa_mem hj)
theorem End.le {r : Nat → Nat → Prop} (m : Mk ac nx L) (h : Least r ac.length cl) {K : Nat} (E : End (fC cl nx) L K) : K ≤ ac.length := by
  have := zcv (L := L) m.n1 (fun q a hq ha => zb0 m h hq ha) K
  rw [E.len] at this; exact this
theorem zfb {r : Nat → Nat → Prop} (m : Mk ac nx L) (h : Least r ac.length cl) {ns : List ByteArray} {K : Nat} (E : End (fC cl nx) L K) {j : Nat} (hj : j < K) {o : List ByteArray × List Bool × List (List Int) × Int}
    (fin : ∀ num, Num ac.length num (bf (fC cl nx) L (j + 1)) → Ev (fun k => canon_Minimal.l1 k cl num (toZ (bf (fC cl nx) L (j + 1))) ((j + 1 : Nat) : Int) ns ac nx ns (acs ac (fC cl nx) L (j + 1)) (rws (fC cl nx) L (j + 1))) o) :
    ∀ (e a : Nat) (num row : List Int), a + e = L → Num ac.length num (mid (fC cl nx) (bf (fC cl nx) L j) (qa (fC cl nx) L j) a) → row = (List.range a).map (fun a => ((rwn (fC cl nx) L j a : Nat) : Int)) ++ List.replicate (L - a) 0 →
      Ev (fun k => canon_Minimal.l2 k cl num (toZ (mid (fC cl nx) (bf (fC cl nx) L j) (qa (fC cl nx) L j) a)) (j : Int) ((qa (fC cl nx) L j : Nat) : Int) row (rd_L3 nx ((qa (fC cl nx) L j : Nat) : Int)) (L : Int) (a : Int) ns ac nx ns (acs ac (fC cl nx) L j) (rws (fC cl nx) L j)) o := by
  have n2 := m.n2
  have l2 := m.l2
  have hq := zd5 m h E hj
  have Kn := E.le m h
  have hc := h.len
  obtain ⟨rl, rt⟩ := m.row hq
  intro e
  induction e with
  | zero =>
    intro a num row ha hn hr
    have e : a = L := by omega
    subst e
    refine Ev.step (fun k => by rw [canon_Minimal.l2]) (Ev.ncond (by omega) (Ev.cond (by omega) (Ev.cond (by omega) (Ev.cond (by rw [zao]; omega) (Ev.cond (by rw [zdv]; omega) ?_)))))
    have f := fin num hn
    rw [zfn, zfh] at f
    rw [zdc (by omega), m.acc hq, hr, Nat.sub_self, List.replicate_zero, List.append_nil]
    exact f
  | succ e ih =>
    intro a num row ha hn hr
    have al : a < L := by omega
    have t := zb0 m h hq al
    have fr := fC_rd m h hq al
    have rlen : row.length = L := by rw [hr]; simp; omega
    have ml : (mid (fC cl nx) (bf (fC cl nx) L j) (qa (fC cl nx) L j) a).length ≤ ac.length := by
      have := zcv (L := L) m.n1 (fun q a hq ha => zb0 m h hq ha) (j + 1)
      obtain ⟨u, hu⟩ := zbm (f := fC cl nx) (bf (fC cl nx) L j) (qa (fC cl nx) L j) (show a ≤ L by omega)
      have e2 : bf (fC cl nx) L (j + 1) = _ := hu
      rw [e2, List.length_append] at this; omega
    have tn := m.to hq al
    have a9 : a ≤ 1000 := by omega
    refine Ev.step (fun k => by rw [canon_Minimal.l2]) (Ev.cond (by omega) (Ev.cond (by omega) (Ev.cond (by omega) ?_)))
    rw [fr, (rt a al).1]
    refine Ev.cond (by omega) (Ev.cond (by omega) (Ev.cond (by omega) (Ev.cond (by rw [hn.len]; omega) ?_)))
    have rm := zgo (f := fC cl nx) (j := j) al
    by_cases c : fC cl nx (qa (fC cl nx) L j) a ∈ mid (fC cl nx) (bf (fC cl nx) L j) (qa (fC cl nx) L j) a
    · have em : mid (fC cl nx) (bf (fC cl nx) L j) (qa (fC cl nx) L j) (a + 1) = mid (fC cl nx) (bf (fC cl nx) L j) (qa (fC cl nx) L j) a := by rw [mid, nm, if_pos c]
      refine Ev.ncond (fun z => (hn.neg t).1 z c) (Ev.cond (by omega) ?_)
      have v : rd num ((fC cl nx (qa (fC cl nx) L j) a : Nat) : Int) = ((rwn (fC cl nx) L j a : Nat) : Int) := by rw [zab, hn.at_ _ t, if_pos c, rm, em]
      rw [v, zdc a9, Int.toNat_natCast, ← em]
      exact ih (a + 1) num _ (by omega) (by rw [em]; exact hn) (by rw [hr]; exact zcp (fun a => ((rwn (fC cl nx) L j a : Nat) : Int)) al)
    · have em : mid (fC cl nx) (bf (fC cl nx) L j) (qa (fC cl nx) L j) (a + 1) = mid (fC cl nx) (bf (fC cl nx) L j) (qa (fC cl nx) L j) a ++ [fC cl nx (qa (fC cl nx) L j) a] := by rw [mid, nm, if_neg c]
      refine Ev.cond ((hn.neg t).2 c) ?_
      rw [Int.toNat_natCast, zb4]
      refine Ev.ret rfl (Ev.cond (by omega) (Ev.cond (by omega) ?_))
      have hn' := hn.put t c
      rw [← em] at hn'
      have v : rd (num.set (fC cl nx (qa (fC cl nx) L j) a) ((mid (fC cl nx) (bf (fC cl nx) L j) (qa (fC cl nx) L j) a).length : Int)) ((fC cl nx (qa (fC cl nx) L j) a : Nat) : Int) = ((rwn (fC cl nx) L j a : Nat) : Int) := by
        rw [zab, hn'.at_ _ t, if_pos (by rw [em]; simp), rm]
      rw [v, zdc a9, Int.toNat_natCast, ze8, ← em]
      exact ih (a + 1) _ _ (by omega) hn' (by rw [hr]; exact zcp (fun a => ((rwn (fC cl nx) L j a : Nat) : Int)) al)
theorem zgc {r : Nat → Nat → Prop} (m : Mk ac nx L) (h : Least r ac.length cl) {ns : List ByteArray} {K : Nat} (E : End (fC cl nx) L K) : ∀ (d j : Nat) (num : List Int), j + d = K → Num ac.length num (bf (fC cl nx) L j) →
    Ev (fun k => canon_Minimal.l1 k cl num (toZ (bf (fC cl nx) L j)) (j : Int) ns ac nx ns (acs ac (fC cl nx) L j) (rws (fC cl nx) L j)) (ns, acs ac (fC cl nx) L K, rws (fC cl nx) L K, 0) := by
  have n2 := m.n2
  have l2 := m.l2
  have ln := m.len
  intro d
  induction d with
  | zero =>
    intro j num hj hn
    have e : j = K := by omega
    subst e
    exact Ev.step (fun k => by rw [canon_Minimal.l1]) (Ev.ncond (by rw [zb4, E.len]; omega) (Ev.fin rfl))
  | succ d ih =>
    intro j num hj hn
    have jK : j < K := by omega
    have on := E.on j jK
    have hq := zd5 m h E jK
    have row := zfb m h (ns := ns) E jK (fun num' hn' => ih (j + 1) num' (by omega) hn') L 0 num (List.replicate L 0) (by omega) hn (by simp)
    have rq : rd (toZ (bf (fC cl nx) L j)) (j : Int) = ((qa (fC cl nx) L j : Nat) : Int) := toZ_at _ on
    refine Ev.step (fun k => by rw [canon_Minimal.l1]) (Ev.cond (by rw [zb4]; omega) (Ev.cond (by omega) ?_))
    rw [rq, (m.row hq).1]
    refine Ev.cond (by omega) (Ev.cond (by omega) (Ev.cond (by omega) (Ev.cond (by omega) ?_)))
    rw [Int.toNat_natCast]; exact row
theorem num0 {n : Nat} {x : List Int} (n1 : 1 ≤ n) (hx : x.length = n) (h : ∀ p, p < n → x.getD p 0 = -1) : Num n (x.set 0 0) (bf (fC cl nx) L 0) := by
  refine ⟨by rw [List.length_set, hx], fun y hy => ?_⟩
  rw [za9 (by omega)]
  by_cases e : y = 0
  · subst e; rw [if_pos rfl, if_pos (by simp [bf])]; simp [bf, num1]
  · rw [if_neg e, h y hy, if_neg (by simp [bf, e])]
theorem zgp {ns : List ByteArray} (hs : SZ ns) (hb : ns.length < 8796093022208) (hr : RZ nx) (d : DOk ns ac nx) (m : Mk ac nx L) {r : Nat → Nat → Prop} (h : Least r ac.length cl) (hC : Ev (fun k => canon_Classes.f k ns ac nx) (cl, 0)) {K : Nat} (E : End (fC cl nx) L K) :
    Ev (fun k => canon_Minimal.f k ns ac nx) (ns, acs ac (fC cl nx) L K, rws (fC cl nx) L K, 0) := by
  have n2 := m.n2
  have n1 := m.n1
  have hc := h.len
  have key : ∀ (e i : Nat) (x : List Int), i + e = ac.length → x.length = ac.length → (∀ p, p < i → x.getD p 0 = -1) → Ev (fun k => canon_Minimal.l0 k cl x (ac.length : Int) (i : Int) ns ac nx) (ns, acs ac (fC cl nx) L K, rws (fC cl nx) L K, 0) := by
    intro e
    induction e with
    | zero =>
      intro i x hi hx hp
      refine Ev.step (fun k => by rw [canon_Minimal.l0]) (Ev.ncond (by omega) (Ev.cond (by omega) ?_))
      refine Ev.ret (show slices_Clone_string_string.f ns = some ns by simp [slices_Clone_string_string.f, hb]) ?_
      exact zgc m h (ns := ns) E K 0 (x.set 0 0) (by omega) (num0 n1 hx (fun p hp' => hp p (by omega)))
    | succ e ih =>
      intro i x hi hx hp
      refine Ev.step (fun k => by rw [canon_Minimal.l0]) (Ev.cond (by omega) (Ev.cond (by omega) (Ev.cond (by omega) ?_)))
      rw [w64 (by omega) (by omega), Int.toNat_natCast]
      refine ih (i + 1) _ (by omega) (by rw [List.length_set, hx]) (fun p hp' => ?_)
      rw [za9 (by omega)]
      by_cases c : p = i
      · rw [if_pos c]
      · rw [if_neg c]; exact hp p (by omega)
  refine Ev.congr (fun k => by rw [canon_Minimal.f]) (Ev.bind hC ?_)
  refine Ev.cond rfl ?_
  refine Ev.cond (by show (0 : Int) ≤ (cl.length : Int); omega) (Ev.cond (by show ((cl.length : Int)).toNat ≤ _; omega) (Ev.ret rfl ?_))
  have g := key ac.length 0 (List.replicate cl.length 0) (by omega) (by simp [hc]) (fun p hp => absurd hp (by omega))
  show Ev (fun k => canon_Minimal.l0 k cl (List.replicate ((cl.length : Int)).toNat 0) ((List.replicate ((cl.length : Int)).toNat (0 : Int)).length : Int) 0 ns ac nx) _
  rw [Int.toNat_natCast, List.length_replicate, hc]
  rw [hc] at g; exact g
end
end Go.Proofs.Ythgoonohpfoagaa.Pure
namespace Go.Proofs.Ythgoonohpfoagaa.Pure
open Go.RowKit Go.Proofs.YthgoonohpfoagaaW.PrintWords Go.Proofs.YthgoonohpfoagaaW.PrintLast Go.Proofs.YthgoonohpfoagaaW.PrintMore Go.Proofs.Ythgoonohpfoagaa.X
set_option linter.unusedVariables false
section
variable {acc : Nat → Bool} {δ : Nat → Nat → Nat} {L : Nat}
theorem EE.run {p q : Nat} (h : EE acc δ L p q) : ∀ {w : List Nat}, Let L w → EE acc δ L (runN δ p w) (runN δ q w) := by
  intro w
  induction w generalizing p q with
  | nil => intro _; exact h
  | cons a w ih => intro hw; exact ih (h.next (hw a (by simp))) (fun c hc => hw c (by simp [hc]))
end
def zbk (ac : List Bool) (nx : List (List Int)) (L : Nat) : Prop := acF ac 0 = false ∧ ∀ q, q < ac.length → ∀ a, a < L → acF ac (dlF nx q a) = acF ac (dlF nx (dlF nx q a) a)
theorem zd8 {ns : List ByteArray} {ac : List Bool} {nx : List (List Int)} {L : Nat} (m : Mk ac nx L) (h0 : acF ac 0 = false) :
    ∃ b, Ev (fun k => canon_Sound.l0 k nx (nx.length : Int) 0 ns ac nx) b ∧ (b = true ↔ zbk ac nx L) := by
  have ln := m.len
  have n2 := m.n2
  have l2 := m.l2
  have outer : ∀ (d q : Nat), q + d = ac.length → (∀ q', q' < q → ∀ a, a < L → acF ac (dlF nx q' a) = acF ac (dlF nx (dlF nx q' a) a)) → ∃ b, Ev (fun k => canon_Sound.l0 k nx (nx.length : Int) (q : Int) ns ac nx) b ∧ (b = true ↔ zbk ac nx L) := by
    intro d
    induction d with
    | zero =>
      intro q hq h
      exact ⟨true, Ev.step (fun k => by rw [canon_Sound.l0]) (Ev.ncond (by omega) (Ev.fin rfl)), fun _ => ⟨h0, fun q' hq' a ha => h q' (by omega) a ha⟩, fun _ => rfl⟩
    | succ d ih =>
      intro q hq h
      have qn : q < ac.length := by omega
      obtain ⟨rl, rt⟩ := m.row qn
      have inner : ∀ (e a : Nat), a + e = L → (∀ a', a' < a → acF ac (dlF nx q a') = acF ac (dlF nx (dlF nx q a') a')) → ∃ b, Ev (fun k => canon_Sound.l1 k nx (nx.length : Int) (q : Int) (rd_L3 nx (q : Int)) (L : Int) (a : Int) ns ac nx) b ∧ (b = true ↔ zbk ac nx L) := by
        intro e
        induction e with
        | zero =>
          intro a ha h'
          obtain ⟨b, hb, hb2⟩ := ih (q + 1) (by omega) (fun q' hq' a' ha' => by
            by_cases z : q' = q
            · subst z; exact h' a' (by omega)
            · exact h q' (by omega) a' ha')
          refine ⟨b, Ev.step (fun k => by rw [canon_Sound.l1]) (Ev.ncond (by omega) ?_), hb2⟩
          rw [w64 (by omega) (by omega)]; exact hb
        | succ e ih2 =>
          intro a ha h'
          have al : a < L := by omega
          have t := m.to qn al
          have t2 := m.to t al
          obtain ⟨rl2, rt2⟩ := m.row t
          by_cases c : acF ac (dlF nx q a) = acF ac (dlF nx (dlF nx q a) a)
          · obtain ⟨b, hb, hb2⟩ := ih2 (a + 1) (by omega) (fun a' ha' => by
              by_cases z : a' = a
              · subst z; exact c
              · exact h' a' (by omega))
            refine ⟨b, Ev.step (fun k => by rw [canon_Sound.l1]) (Ev.cond (by omega) (Ev.cond (by omega) (Ev.cond (by omega) ?_))), hb2⟩
            rw [(rt a al).1, rl2, (rt2 a al).1, m.acc t, m.acc t2]
            refine Ev.cond (by omega) (Ev.cond (by omega) (Ev.cond (by omega) (Ev.cond (by omega) (Ev.cond (by omega) (Ev.cond (by omega) (Ev.ncond (by rw [c]; simp) ?_))))))
            rw [w64 (by omega) (by omega)]; exact hb
          · refine ⟨false, Ev.step (fun k => by rw [canon_Sound.l1]) (Ev.cond (by omega) (Ev.cond (by omega) (Ev.cond (by omega) ?_))), (fun z => by cases z), fun z => absurd (z.2 q qn a al) c⟩
            rw [(rt a al).1, rl2, (rt2 a al).1, m.acc t, m.acc t2]
            exact Ev.cond (by omega) (Ev.cond (by omega) (Ev.cond (by omega) (Ev.cond (by omega) (Ev.cond (by omega) (Ev.cond (by omega) (Ev.cond (by simpa using c) (Ev.fin rfl)))))))
      obtain ⟨b, hb, hb2⟩ := inner L 0 (by omega) (fun a' h => absurd h (by omega))
      refine ⟨b, Ev.step (fun k => by rw [canon_Sound.l0]) (Ev.cond (by omega) (Ev.cond (by omega) (Ev.cond (by omega) ?_))), hb2⟩
      rw [rl]; exact hb
  exact outer ac.length 0 (by omega) (fun q' h => absurd h (by omega))
theorem zfq {ns ns' : List ByteArray} {ac ac' : List Bool} {nx nx' : List (List Int)} {L : Nat} (h : Ev (fun k => canon_Minimal.f k ns ac nx) (ns', ac', nx', 0)) (m : Mk ac' nx' L) :
    ∃ b, Ev (fun k => canon_Sound.f k ns ac nx) b ∧ (b = true ↔ zbk ac' nx' L) := by
  have n1 := m.n1
  have a0 : rdOf false ac' 0 = acF ac' 0 := m.acc (q := 0) (by omega)
  by_cases c : acF ac' 0 = true
  · refine ⟨false, Ev.congr (fun k => by rw [canon_Sound.f]) (Ev.bind h ?_), (fun z => by cases z), fun z => by rw [z.1] at c; cases c⟩
    refine Ev.cond rfl (Ev.cond (by show (0 : Int) < (ac'.length : Int); omega) ?_)
    show Ev (fun k => canon_Sound.j0 k (rdOf false ac' 0) ns' ac' nx') false
    rw [a0, c]
    exact Ev.step (fun k => by rw [canon_Sound.j0]) (Ev.cond rfl (Ev.fin rfl))
  · have c0 : acF ac' 0 = false := by simpa using c
    obtain ⟨b, hb, hb2⟩ := zd8 (ns := ns') m c0
    refine ⟨b, Ev.congr (fun k => by rw [canon_Sound.f]) (Ev.bind h ?_), hb2⟩
    refine Ev.cond rfl (Ev.cond (by show (0 : Int) < (ac'.length : Int); omega) ?_)
    show Ev (fun k => canon_Sound.j0 k (rdOf false ac' 0) ns' ac' nx') b
    rw [a0, c0]
    exact Ev.step (fun k => by rw [canon_Sound.j0]) (Ev.ncond (by decide) hb)
section
variable {ac : List Bool} {nx : List (List Int)} {L : Nat} {cl : List Int}
theorem acs_at (f : Nat → Nat → Nat) {K i : Nat} (h : i < K) : acF (acs ac f L K) i = acF ac (qa f L i) := by
  rw [acF, List.getD_eq_getElem?_getD, acs, List.getElem?_map, List.getElem?_range h]; rfl
theorem zem (f : Nat → Nat → Nat) {K i a : Nat} (h : i < K) (ha : a < L) : dlF (rws f L K) i a = rwn f L i a := by
  rw [dlF, List.getD_eq_getElem?_getD (l := rws f L K), rws, List.getElem?_map, List.getElem?_range h]
  simp [List.getD_eq_getElem?_getD, ha]
theorem min_mk {r : Nat → Nat → Prop} (m : Mk ac nx L) (h : Least r ac.length cl) {K : Nat} (E : End (fC cl nx) L K) : Mk (acs ac (fC cl nx) L K) (rws (fC cl nx) L K) L := by
  have := E.le m h
  have n2 := m.n2
  refine ⟨by rw [zdv, zao], by rw [zao]; exact E.pos, by rw [zao]; omega, m.l1, m.l2, fun row hrow => ?_⟩
  obtain ⟨i, hi, rfl⟩ := List.mem_map.1 hrow
  rw [List.mem_range] at hi
  refine ⟨by simp, fun x hx => ?_⟩
  obtain ⟨a, ha, rfl⟩ := List.mem_map.1 hx
  rw [List.mem_range] at ha
  have := E.num_lt hi ha
  rw [zao]; omega
theorem fC_ee (m : Mk ac nx L) (h : Least (EE (acF ac) (dlF nx) L) ac.length cl) {q a : Nat} (hq : q < ac.length) (ha : a < L) : EE (acF ac) (dlF nx) L (fC cl nx q a) (dlF nx q a) := by
  obtain ⟨p, e, _, ee, _⟩ := h.at_ _ (m.to hq ha)
  have : fC cl nx q a = p := by rw [fC, e]; simp
  rw [this]; exact ee
theorem zdl (f : Nat → Nat → Nat) : qa f L 0 = 0 := by simp [qa, bf]
theorem zdm (m : Mk ac nx L) (h : Least (EE (acF ac) (dlF nx) L) ac.length cl) {K : Nat} (E : End (fC cl nx) L K) : ∀ {w : List Nat} {i q : Nat}, i < K → q < ac.length → EE (acF ac) (dlF nx) L (qa (fC cl nx) L i) q → Let L w →
    runN (dlF (rws (fC cl nx) L K)) i w < K ∧ EE (acF ac) (dlF nx) L (qa (fC cl nx) L (runN (dlF (rws (fC cl nx) L K)) i w)) (runN (dlF nx) q w) := by
  intro w
  induction w with
  | nil => intro i q hi hq e _; exact ⟨hi, e⟩
  | cons a w ih =>
    intro i q hi hq e hw
    have ha := hw a (by simp)
    have hqi := zd5 m h E hi
    have e1 := zem (fC cl nx) (K := K) hi ha
    have l1 := E.num_lt hi ha
    show runN _ (dlF _ i a) w < K ∧ EE _ _ L (qa _ L (runN _ (dlF _ i a) w)) (runN _ (dlF nx q a) w)
    rw [e1]
    refine ih l1 (m.to hq ha) ?_ (fun c hc => hw c (by simp [hc]))
    rw [E.back hi ha]
    exact (fC_ee m h hqi ha).trans (e.next ha)
theorem ze0 (m : Mk ac nx L) (h : Least (EE (acF ac) (dlF nx) L) ac.length cl) {K : Nat} (E : End (fC cl nx) L K) {w : List Nat} {i q : Nat} (hi : i < K) (hq : q < ac.length) (e : EE (acF ac) (dlF nx) L (qa (fC cl nx) L i) q) (hw : Let L w) :
    acF (acs ac (fC cl nx) L K) (runN (dlF (rws (fC cl nx) L K)) i w) = acF ac (runN (dlF nx) q w) := by
  obtain ⟨a, b⟩ := zdm m h E hi hq e hw
  rw [acs_at _ a]
  exact b 0
theorem zev (m : Mk ac nx L) {r : Nat → Nat → Prop} (h : Least r ac.length cl) {K : Nat} (E : End (fC cl nx) L K) {i j : Nat} (hi : i < K) (hj : j < K) (e : qa (fC cl nx) L i = qa (fC cl nx) L j) : i = j := by
  have nd := zbv (f := fC cl nx) (L := L) K
  have li : i < (bf (fC cl nx) L K).length := by rw [E.len]; exact hi
  have lj : j < (bf (fC cl nx) L K).length := by rw [E.len]; exact hj
  have a := E.at_ hi (Nat.le_of_lt hi) (Nat.le_refl _)
  have b := E.at_ hj (Nat.le_of_lt hj) (Nat.le_refl _)
  rw [List.getD_eq_getElem?_getD, List.getElem?_eq_getElem li, Option.getD_some] at a
  rw [List.getD_eq_getElem?_getD, List.getElem?_eq_getElem lj, Option.getD_some] at b
  have x := nd.idxOf_getElem i li
  have y := nd.idxOf_getElem j lj
  rw [a] at x
  rw [b, ← e] at y
  exact x.symm.trans y
end
structure Canon (ns : List ByteArray) (ac : List Bool) (nx : List (List Int)) (cl : List Int) (K : Nat) : Prop where
  rt : Mk ac nx (2 ^ ns.length)
  least : Least (EE (acF ac) (dlF nx) (2 ^ ns.length)) ac.length cl
  stop : End (fC cl nx) (2 ^ ns.length) K
  cls : Ev (fun k => canon_Classes.f k ns ac nx) (cl, 0)
  min : Ev (fun k => canon_Minimal.f k ns ac nx) (ns, acs ac (fC cl nx) (2 ^ ns.length) K, rws (fC cl nx) (2 ^ ns.length) K, 0)
theorem zfi {ns : List ByteArray} {ac : List Bool} {nx : List (List Int)} (hs : SZ ns) (hb : ns.length < 8796093022208) (hr : RZ nx) (d : DOk ns ac nx) : ∃ cl K, Canon ns ac nx cl K := by
  have m := d.mk'
  obtain ⟨cl, h, e⟩ := zef hs hr d m
  obtain ⟨K, _, E⟩ := zd3 (f := fC cl nx) (L := 2 ^ ns.length) m.n1 (fun q a hq ha => zb0 m h hq ha)
  exact ⟨cl, K, m, h, E, e, zgp hs hb hr d m h e E⟩
end Go.Proofs.Ythgoonohpfoagaa.Pure
namespace Go.Proofs.Ythgoonohpfoagaa.Pure
open Go.RowKit Go.Proofs.YthgoonohpfoagaaW.PrintWords Go.Proofs.YthgoonohpfoagaaW.PrintLast Go.Proofs.YthgoonohpfoagaaW.PrintMore Go.Proofs.Ythgoonohpfoagaa.X
set_option linter.unusedVariables false
end Go.Proofs.Ythgoonohpfoagaa.Pure
namespace Go.Proofs.Ythgoonohpfoagaa.Pure
open Go.RowKit Go.Proofs.YthgoonohpfoagaaW.PrintWords Go.Proofs.YthgoonohpfoagaaW.PrintLast Go.Proofs.YthgoonohpfoagaaW.PrintMore Go.Proofs.Ythgoonohpfoagaa.X
set_option linter.unusedVariables false
section
variable {ns : List ByteArray} {ac : List Bool} {nx : List (List Int)} {cl : List Int} {K : Nat}
end
end Go.Proofs.Ythgoonohpfoagaa.Pure
namespace Go.Proofs.Ythgoonohpfoagaa.Pure
open Go.RowKit Go.Proofs.YthgoonohpfoagaaW.PrintWords Go.Proofs.YthgoonohpfoagaaW.PrintLast Go.Proofs.YthgoonohpfoagaaW.PrintMore Go.Proofs.Ythgoonohpfoagaa.X
set_option linter.unusedVariables false
structure Flg (n : Nat) (x : List Bool) (ms : List Nat) : Prop where
  len : x.length = n
  at_ : ∀ q, q < n → x.getD q false = decide (q ∈ ms)
theorem Flg.rd {n : Nat} {x : List Bool} {ms : List Nat} (h : Flg n x ms) {q : Nat} (hq : q < n) : rdOf false x (q : Int) = decide (q ∈ ms) := by
  rw [← h.at_ q hq]; simp [rdOf]
theorem Flg.put {n : Nat} {x : List Bool} {ms : List Nat} (h : Flg n x ms) {q : Nat} (hq : q < n) : Flg n (x.set q true) (ms ++ [q]) := by
  refine ⟨by rw [List.length_set, h.len], fun p hp => ?_⟩
  have l := h.len
  by_cases c : p = q
  · subst c
    rw [List.getD_eq_getElem?_getD, List.getElem?_set_self (by omega)]; simp
  · rw [List.getD_eq_getElem?_getD, List.getElem?_set_ne (by omega), ← List.getD_eq_getElem?_getD, h.at_ p hp]
    simp [c]
section
variable {ac : List Bool} {nx : List (List Int)} {L : Nat}
def zdt (ac : List Bool) (nx : List (List Int)) (L : Nat) : Prop := acF ac 0 = false ∧ ∀ w, Let L w → ∀ a, a < L → acF ac (dlF nx (runN (dlF nx) 0 w) a) = acF ac (dlF nx (dlF nx (runN (dlF nx) 0 w) a) a)
end
theorem Canon.sound {ns : List ByteArray} {ac : List Bool} {nx : List (List Int)} {cl : List Int} {K : Nat} (C : Canon ns ac nx cl K) : zbk (acs ac (fC cl nx) (2 ^ ns.length) K) (rws (fC cl nx) (2 ^ ns.length) K) (2 ^ ns.length) ↔ zdt ac nx (2 ^ ns.length) := by
  have qz : EE (acF ac) (dlF nx) (2 ^ ns.length) (qa (fC cl nx) (2 ^ ns.length) 0) 0 := by rw [zdl]; exact EE.refl _
  have E := C.stop
  have words : ∀ w, Let (2 ^ ns.length) w → acF ac (runN (dlF nx) 0 w) = acF (acs ac (fC cl nx) (2 ^ ns.length) K) (runN (dlF (rws (fC cl nx) (2 ^ ns.length) K)) 0 w) := fun w hw => (ze0 C.rt C.least E E.pos C.rt.n1 qz hw).symm
  have sn : ∀ {w : List Nat} {a : Nat}, Let (2 ^ ns.length) w → a < 2 ^ ns.length → Let (2 ^ ns.length) (w ++ [a]) := by
    intro w a hw ha c hc
    rcases List.mem_append.1 hc with h | h
    · exact hw c h
    · rw [List.mem_singleton.1 h]; exact ha
  have one : ∀ w, Let (2 ^ ns.length) w → ∀ a, a < 2 ^ ns.length → (acF ac (dlF nx (runN (dlF nx) 0 w) a) = acF ac (dlF nx (dlF nx (runN (dlF nx) 0 w) a) a) ↔ acF (acs ac (fC cl nx) (2 ^ ns.length) K) (dlF (rws (fC cl nx) (2 ^ ns.length) K) (runN (dlF (rws (fC cl nx) (2 ^ ns.length) K)) 0 w) a) = acF (acs ac (fC cl nx) (2 ^ ns.length) K) (dlF (rws (fC cl nx) (2 ^ ns.length) K) (dlF (rws (fC cl nx) (2 ^ ns.length) K) (runN (dlF (rws (fC cl nx) (2 ^ ns.length) K)) 0 w) a) a)) := by
    intro w hw a ha
    have h1 := words _ (sn hw ha)
    have h2 := words _ (sn (sn hw ha) ha)
    simp only [zcg] at h1 h2
    rw [h1, h2]
  have z0 := words [] (by simp [Let])
  constructor
  · rintro ⟨s0, s⟩
    refine ⟨by rw [← s0]; exact z0, fun w hw a ha => (one w hw a ha).2 (s _ ?_ a ha)⟩
    rw [zao]
    exact (zdm C.rt C.least E E.pos C.rt.n1 qz hw).1
  · rintro ⟨s0, s⟩
    refine ⟨by rw [← s0]; exact z0.symm, fun q hq a ha => ?_⟩
    rw [zao] at hq
    obtain ⟨w, hw, e⟩ : ∃ w, Let (2 ^ ns.length) w ∧ runN (dlF (rws (fC cl nx) (2 ^ ns.length) K)) 0 w = q := by
      clear one z0 words
      induction q using Nat.strongRecOn with
      | ind q ih =>
        have mem : qa (fC cl nx) (2 ^ ns.length) q ∈ bf (fC cl nx) (2 ^ ns.length) q := by
          have on := E.on q hq
          rw [qa, List.getD_eq_getElem?_getD, List.getElem?_eq_getElem on]
          exact List.getElem_mem _
        rcases bf_led q _ mem with h | ⟨j, b, hj, hb, h⟩
        · exact ⟨[], by simp [Let], zev C.rt C.least E E.pos hq (by rw [h]; exact zdl _)⟩
        · obtain ⟨w, hw, e⟩ := ih j hj (by omega)
          refine ⟨w ++ [b], sn hw hb, ?_⟩
          rw [zcg, e, zem _ (by omega) hb]
          exact zev C.rt C.least E (E.num_lt (by omega) hb) hq (by rw [E.back (by omega) hb, h])
    have := (one w hw a ha).1 (s w hw a ha)
    rw [e] at this
    exact this
end Go.Proofs.Ythgoonohpfoagaa.Pure
namespace Go.Proofs.Ythgoonohpfoagaa.Pure
open Go.RowKit Go.Proofs.YthgoonohpfoagaaW.PrintWords Go.Proofs.YthgoonohpfoagaaW.PrintLast Go.Proofs.YthgoonohpfoagaaW.PrintMore Go.Proofs.Ythgoonohpfoagaa.X
set_option linter.unusedVariables false
theorem zcb {a b c : Int} {ns : List ByteArray} {cs : List Int} (h0 : ns.length * 16 ≤ 140737488351232) (h1 : cs.length * 8 ≤ 140737488351232) : tabardlaw14_copied.f a ns cs b c = some (a, ns, cs, b, c) := by
  simp only [tabardlaw14_copied.f, Option.bind_some, List.nil_append, List.length_nil, Nat.zero_add]
  rw [if_pos (by omega), if_pos (by omega)]
def absS : List Int → Int
  | [] => 0
  | a :: l => (a.natAbs : Int) + absS l
theorem za2 : ∀ l : List Int, 0 ≤ absS l
  | [] => Int.le_refl _
  | a :: l => by have := za2 l; simp only [absS]; omega
theorem abs_eq {a : Int} (h : (Lit.int .i64 a).wf = true) : chk_Abs.f a = if (a.natAbs : Int) ≤ 9223372036854775807 then some ((a.natAbs : Int), 0) else some (0, 10) := by
  obtain ⟨h0, h1⟩ := zam h
  unfold chk_Abs.f chk_Neg.f chk_Sub.f
  by_cases c : a < 0
  · rw [if_pos c, if_pos (by rw [decide_eq_true (show (0 : Int) ≥ 0 by omega), decide_eq_false (show ¬ a ≥ 0 by omega)]; rfl)]
    by_cases m : a = -9223372036854775808
    · subst m; decide +kernel
    · rw [w64 (by omega) (by omega), decide_eq_true (show 0 - a ≥ 0 by omega), decide_eq_true (show (0 : Int) ≥ 0 by omega), if_neg (by decide), if_pos (by omega)]
      simp only [Option.bind_some]
      rw [show (0 : Int) - a = (a.natAbs : Int) by omega]
  · rw [if_neg c, if_pos (by omega), show (a.natAbs : Int) = a by omega]
theorem add_eq {a b : Int} (h0 : 0 ≤ a) (h1 : a ≤ 9223372036854775807) (h2 : 0 ≤ b) (h3 : b ≤ 9223372036854775807) : chk_Add.f a b = if a + b ≤ 9223372036854775807 then some (a + b, 0) else some (0, 10) := by
  unfold chk_Add.f
  rw [decide_eq_true (show a ≥ 0 from h0), decide_eq_true (show b ≥ 0 from h2), if_pos (by decide)]
  by_cases c : a + b ≤ 9223372036854775807
  · rw [w64 (by omega) c, decide_eq_true (show a + b ≥ 0 by omega), if_neg (by decide), if_pos c]
  · rw [if_neg c, decide_eq_false (show ¬ wrap64 (a + b) ≥ 0 by unfold wrap64; omega), if_pos (by decide)]
theorem zfp (l : List Int) (hl : l.length ≤ 9000000000000000000) (hw : ∀ x ∈ l, (Lit.int .i64 x).wf = true) :
    Ev (fun k => chk_Total.f k l) (if absS l ≤ 9223372036854775807 then (absS l, 0) else (0, 10)) := by
  refine Ev.congr (fun k => by rw [chk_Total.f]) ?_
  have key : ∀ (m i : Nat) (x : Int), i + m = l.length → 0 ≤ x → x ≤ 9223372036854775807 → Ev (fun k => chk_Total.l0 k x l (l.length : Int) (i : Int)) (if x + absS (l.drop i) ≤ 9223372036854775807 then (x + absS (l.drop i), 0) else (0, 10)) := by
    intro m
    induction m with
    | zero =>
      intro i x hi h0 h1
      rw [List.drop_of_length_le (by omega), absS, Int.add_zero, if_pos h1]
      exact Ev.step (fun k => by rw [chk_Total.l0]) (Ev.ncond (by omega) (Ev.fin rfl))
    | succ m ih =>
      intro i x hi h0 h1
      have ii : i < l.length := by omega
      have hx := hw _ (List.getElem_mem ii)
      have hd : absS (l.drop i) = ((l[i]).natAbs : Int) + absS (l.drop (i + 1)) := by rw [List.drop_eq_getElem_cons ii, absS]
      have h3 := za2 (l.drop (i + 1))
      refine Ev.step (fun k => by rw [chk_Total.l0]) (Ev.cond (by omega) (Ev.cond (by omega) (Ev.cond (by omega) ?_)))
      rw [show rd l (i : Int) = l[i] by simp [rd, List.getD_eq_getElem?_getD, ii]]
      have ha := abs_eq hx
      by_cases c : ((l[i]).natAbs : Int) ≤ 9223372036854775807
      · rw [if_pos c] at ha
        refine Ev.ret ha (Ev.cond rfl ?_)
        have hb := add_eq h0 h1 (by omega : (0 : Int) ≤ ((l[i]).natAbs : Int)) c
        by_cases d : x + ((l[i]).natAbs : Int) ≤ 9223372036854775807
        · rw [if_pos d] at hb
          refine Ev.ret hb (Ev.cond rfl ?_)
          rw [w64 (by omega) (by omega), hd, ← Int.add_assoc]
          exact ih (i + 1) _ (by omega) (by omega) d
        · rw [if_neg d] at hb
          refine Ev.ret hb (Ev.ncond (by decide) (Ev.fin ?_))
          rw [if_neg (by omega)]
      · rw [if_neg c] at ha
        refine Ev.ret ha (Ev.ncond (by decide) (Ev.fin ?_))
        rw [if_neg (by omega)]
  have := key l.length 0 0 (by omega) (by omega) (by omega)
  simpa using this
def zag (kind : Int) (names : List ByteArray) (coefs : List Int) (bound md : Int) : Bool :=
  decide (0 ≤ kind) && (decide (kind ≤ 2) && (za4 names && (decide (names.length = coefs.length) && (decide (absS (bound :: coefs) ≤ 9223372036854775807) &&
    if kind = 2 then decide (1 ≤ md) && (bound :: coefs).all (fun c => decide (0 ≤ c) && decide (c < md)) else decide (md = 0)))))
theorem zdj (kind bound md : Int) (names : List ByteArray) (coefs : List Int) (l : List Int) (hl : l.length ≤ 9000000000000000000) :
    ∀ (m i : Nat) (b : Bool), i + m = l.length → Ev (fun k => norm_Check.l0 k b l (l.length : Int) (i : Int) kind names coefs bound md) (if (b && (l.drop i).all (fun c => decide (0 ≤ c) && decide (c < md))) = true then 0 else 3) := by
  intro m
  induction m with
  | zero =>
    intro i b hi
    rw [List.drop_of_length_le (by omega), List.all_nil, Bool.and_true]
    exact Ev.step (fun k => by rw [norm_Check.l0]) (Ev.ncond (by omega) (Ev.ite (fun h => Ev.fin (if_pos h).symm) (fun h => Ev.fin (if_neg h).symm)))
  | succ m ih =>
    intro i b hi
    have ii : i < l.length := by omega
    refine Ev.step (fun k => by rw [norm_Check.l0]) (Ev.cond (by omega) (Ev.cond (by omega) (Ev.cond (by omega) ?_)))
    rw [show rd l (i : Int) = l[i] by simp [rd, List.getD_eq_getElem?_getD, ii], List.drop_eq_getElem_cons ii, List.all_cons, w64 (by omega) (by omega)]
    refine Ev.ite (fun hb => Ev.ite (fun hc => ?_) (fun hc => ?_)) (fun hb => ?_)
    · rw [hb, Bool.true_and, decide_eq_true (show 0 ≤ l[i] from hc), Bool.true_and]
      exact ih (i + 1) _ (by omega)
    · rw [hb, decide_eq_false (show ¬ 0 ≤ l[i] from hc), Bool.false_and, Bool.false_and, Bool.and_false]
      have := ih (i + 1) false (by omega)
      rw [Bool.false_and] at this
      exact this
    · rw [Bool.not_eq_true] at hb
      rw [hb, Bool.false_and]
      have := ih (i + 1) false (by omega)
      rw [Bool.false_and] at this
      exact this
theorem zc6 (kind bound md : Int) (names : List ByteArray) (coefs : List Int) (h0 : names.length * 16 ≤ 140737488351232) (hs : ∀ x ∈ names, x.size ≤ 9223372036854775807) (h1 : coefs.length * 8 ≤ 140737488351232)
    (hw : ∀ x ∈ coefs, (Lit.int .i64 x).wf = true) (hb : (Lit.int .i64 bound).wf = true) :
    Ev (fun k => norm_Check.f k kind names coefs bound md) (if zag kind names coefs bound md = true then 0 else 3) := by
  have tail : ∀ b : Bool, Ev (fun k => norm_Check.j0 k (bound :: coefs) b kind names coefs bound md) (if (b && if kind = 2 then decide (1 ≤ md) && (bound :: coefs).all (fun c => decide (0 ≤ c) && decide (c < md)) else decide (md = 0)) = true then 0 else 3) := by
    intro b
    refine Ev.step (fun k => by rw [norm_Check.j0]) (Ev.ite (fun hk => ?_) (fun hk => ?_))
    · rw [if_pos hk]
      refine Ev.ite (fun c => ?_) (fun c => ?_)
      · rw [c, Bool.true_and]
        have := zdj kind bound md names coefs (bound :: coefs) (by simp only [List.length_cons]; omega) (bound :: coefs).length 0 (decide (md ≥ 1)) (by omega)
        rw [List.drop_zero] at this
        have this' : Ev (fun k => norm_Check.l0 k (decide (md ≥ 1)) (bound :: coefs) ((bound :: coefs).length : Int) 0 kind names coefs bound md) _ := this
        exact Ev.step (fun k => by rw [norm_Check.j1]) this'
      · rw [Bool.not_eq_true] at c
        rw [c, Bool.false_and]
        have := zdj kind bound md names coefs (bound :: coefs) (by simp only [List.length_cons]; omega) (bound :: coefs).length 0 false (by omega)
        rw [Bool.false_and] at this
        have this' : Ev (fun k => norm_Check.l0 k false (bound :: coefs) ((bound :: coefs).length : Int) 0 kind names coefs bound md) _ := this
        exact Ev.step (fun k => by rw [norm_Check.j1]) this'
    · rw [if_neg hk]
      refine Ev.ite (fun c => ?_) (fun c => ?_)
      · rw [c, Bool.true_and]
        exact Ev.ite (fun d => Ev.fin (if_pos (decide_eq_true d)).symm) (fun d => Ev.fin (if_neg (by simpa using d)).symm)
      · rw [Bool.not_eq_true] at c
        rw [c, Bool.false_and]
        exact Ev.fin rfl
  have no : ∀ {x : Bool}, x = false → Ev (fun k => norm_Check.j0 k (bound :: coefs) false kind names coefs bound md) (if x = true then 0 else 3) := by
    intro x hx
    have := tail false
    rw [Bool.false_and] at this
    rw [hx]; exact this
  refine Ev.congr (fun k => by rw [norm_Check.f]) ?_
  refine Ev.ret rfl ?_
  refine Ev.cond (by simp only [List.length_singleton]; omega) ?_
  refine Ev.ret rfl ?_
  rw [List.singleton_append]
  refine Ev.bind (zfp (bound :: coefs) (by simp only [List.length_cons]; omega) (fun x hx => by rcases List.mem_cons.1 hx with rfl | hx; exact hb; exact hw x hx)) ?_
  unfold zag
  refine Ev.ite (fun c0 => Ev.ite (fun c1 => ?_) (fun c1 => no (by rw [decide_eq_false c1]; simp))) (fun c0 => no (by rw [decide_eq_false c0]; simp))
  rw [decide_eq_true (show 0 ≤ kind from c0), decide_eq_true c1, Bool.true_and, Bool.true_and]
  refine Ev.bind (zc3 names (by omega) hs) (Ev.ite (fun c2 => Ev.ite (fun c3 => ?_) (fun c3 => no (by rw [decide_eq_false (by omega)]; simp))) (fun c2 => no (by rw [Bool.not_eq_true] at c2; rw [c2]; simp)))
  rw [c2, Bool.true_and, decide_eq_true (show names.length = coefs.length by omega), Bool.true_and]
  have := tail ((if absS (bound :: coefs) ≤ 9223372036854775807 then (absS (bound :: coefs), (0 : Int)) else (0, 10)).2 == 0)
  rw [show ((if absS (bound :: coefs) ≤ 9223372036854775807 then (absS (bound :: coefs), (0 : Int)) else (0, 10)).2 == 0) = decide (absS (bound :: coefs) ≤ 9223372036854775807) by
    by_cases d : absS (bound :: coefs) ≤ 9223372036854775807
    · rw [if_pos d, decide_eq_true d]; rfl
    · rw [if_neg d, decide_eq_false d]; rfl] at this
  rw [show ((if absS (bound :: coefs) ≤ 9223372036854775807 then (absS (bound :: coefs), (0 : Int)) else (0, 10)).2 == 0) = decide (absS (bound :: coefs) ≤ 9223372036854775807) by
    by_cases d : absS (bound :: coefs) ≤ 9223372036854775807
    · rw [if_pos d, decide_eq_true d]; rfl
    · rw [if_neg d, decide_eq_false d]; rfl]
  exact this
end Go.Proofs.Ythgoonohpfoagaa.Pure
namespace Go.Proofs.Ythgoonohpfoagaa.Pure
open Go.RowKit Go.Proofs.YthgoonohpfoagaaW.PrintWords Go.Proofs.YthgoonohpfoagaaW.PrintLast Go.Proofs.YthgoonohpfoagaaW.PrintMore Go.Proofs.Ythgoonohpfoagaa.X
set_option linter.unusedVariables false
theorem Ev.fin' {α : Type} {g : Option α} {r : α} (h : g = some r) : Ev (fun _ => g) r := by rw [h]; exact Ev.now r
theorem and1 (a : Int) : Go.bits .and .i64 a 1 = a % 2 := by
  have e1 : (BitVec.ofInt 64 1).toNat = 1 := by decide
  have e2 : (BitVec.ofInt 64 a).toNat = (a % 18446744073709551616).toNat := by rw [BitVec.toNat_ofInt]; rfl
  have h : Go.bits .and .i64 a 1 = IntKind.i64.wrap ((BitVec.ofInt 64 a &&& BitVec.ofInt 64 1).toNat : Int) := rfl
  rw [h, BitVec.toNat_and, e1, e2, Nat.and_one_is_mod, IntKind.wrap_i64]
  omega
def R64 (x : Int) : Prop := -9223372036854775808 ≤ x ∧ x ≤ 9223372036854775807
theorem R64.wf {x : Int} (h : R64 x) : (Lit.int .i64 x).wf = true := by
  obtain ⟨h0, h1⟩ := h
  simp [Lit.wf, IntKind.min, IntKind.max, IntKind.signed, IntKind.bits]; omega
theorem R64.wrap (x : Int) : R64 (wrap64 x) := by unfold R64 wrap64; omega
structure PlOk (kind : Int) (p : atom_Raw.Place) : Prop where
  rest : R64 p.1
  md : R64 p.2.1
  one : p.2.2.2.1 = false → kind = 2 → 1 ≤ p.2.1
theorem PlOk.nothing (kind : Int) : PlOk kind (0, 0, false, true, false) := ⟨⟨by decide, by decide⟩, ⟨by decide, by decide⟩, fun h => by cases h⟩
theorem zbo (r s : Int) : ∃ h, atom_halved.f r s = some h ∧ R64 h := by
  unfold atom_halved.f chk_Half.f
  simp only [Option.bind_some]
  by_cases c : Go.bits .and .i64 r 1 = 0
  · rw [if_pos c]
    by_cases d : Go.bits .and .i64 s 1 = 1
    · rw [if_pos d]; exact ⟨_, rfl, R64.wrap _⟩
    · rw [if_neg d]; exact ⟨_, rfl, R64.wrap _⟩
  · rw [if_neg c]; exact ⟨_, rfl, R64.wrap _⟩
theorem ze3 {a m : Int} (ha : R64 a) (h1 : 1 ≤ m) (h2 : m ≤ 9223372036854775807) : ∃ r e, chk_Rest.f a m = some (r, e) ∧ R64 r := by
  unfold chk_Rest.f
  rw [if_neg (by omega), if_neg (by omega)]
  by_cases c : Int.tmod a m < 0
  · rw [if_pos c]; exact ⟨_, _, rfl, R64.wrap _⟩
  · rw [if_neg c]
    have h3 := Int.tmod_lt_of_pos a (show 0 < m by omega)
    exact ⟨_, _, rfl, by omega, by omega⟩
theorem zfw {kind : Int} (h0 : 0 ≤ kind) (h2 : kind ≤ 2) {p : atom_Raw.Place} (hp : PlOk kind p) (s : Int) : ∃ z, atom_Raw.to kind p s = some z ∧ PlOk kind z := by
  have fin : ∀ z : atom_Raw.Place, atom_next.f kind p.1 p.2.1 p.2.2.1 p.2.2.2.1 p.2.2.2.2 s = some z → PlOk kind z → ∃ z, atom_Raw.to kind p s = some z ∧ PlOk kind z := fun z hz ok => by
    refine ⟨z, ?_, ok⟩
    unfold atom_Raw.to
    rw [hz, Option.bind_some, if_pos ok.rest.wf, if_pos ok.md.wf]
  by_cases n : p.2.2.2.1 = true
  · exact fin (0, 0, false, true, false) (by unfold atom_next.f; rw [if_pos n]) (PlOk.nothing kind)
  · have n' : p.2.2.2.1 = false := by simpa using n
    have z0 : ∀ (x y : Int) (b : Bool), R64 x → R64 y → (kind = 2 → 1 ≤ y) → PlOk kind (x, y, false, false, b) := fun x y b hx hy h => ⟨hx, hy, fun _ => h⟩
    have r0 : R64 0 := ⟨by decide, by decide⟩
    by_cases k0 : kind = 0
    · obtain ⟨h, e, ok⟩ := zbo p.1 s
      exact fin (h, 0, false, false, decide (p.1 ≥ wrap64 (-s))) (by unfold atom_next.f; rw [if_neg n, if_pos k0, e]; rfl) (z0 _ _ _ ok r0 (by omega))
    · by_cases k1 : kind = 1
      · obtain ⟨h, e, ok⟩ := zbo p.1 s
        cases ev : (Go.bits .and .i64 p.1 1 == Go.bits .and .i64 s 1) with
        | true => exact fin (h, 0, false, false, p.1 == wrap64 (-s)) (by unfold atom_next.f; rw [if_neg n, if_neg k0, if_pos k1, atom_even.f, ev, Option.bind_some, if_pos rfl, e]; rfl) (z0 _ _ _ ok r0 (by omega))
        | false => exact fin (0, 0, false, true, false) (by unfold atom_next.f; rw [if_neg n, if_neg k0, if_pos k1, atom_even.f, ev, Option.bind_some, if_neg (by decide)]) (PlOk.nothing kind)
      · have k2 : kind = 2 := by omega
        have m1 := hp.one n' k2
        have m2 := hp.md.2
        have hc : ∃ z, atom_congruent.f p.1 p.2.1 p.2.2.1 p.2.2.2.1 p.2.2.2.2 s = some z ∧ PlOk kind z := by
          unfold atom_congruent.f
          rw [if_neg (by omega)]
          by_cases ce : Go.bits .and .i64 p.2.1 1 = 0
          · rw [if_pos ce]
            rw [and1] at ce
            by_cases cd : Go.bits .and .i64 (wrap64 (p.1 - Int.tmod s p.2.1)) 1 = 0
            · rw [if_pos cd, chk_Half.f, Option.bind_some]
              have hd : Int.tdiv p.2.1 2 = p.2.1 / 2 := Int.tdiv_eq_ediv_of_nonneg (by omega)
              have hw : wrap64 (Int.tdiv p.2.1 2) = p.2.1 / 2 := by rw [hd]; exact w64 (by omega) (by omega)
              rw [hw]
              obtain ⟨r, e, er, ok⟩ := ze3 (a := wrap64 (p.1 - Int.tmod s p.2.1) / 2) (m := p.2.1 / 2) (by have := R64.wrap (p.1 - Int.tmod s p.2.1); unfold R64 at this ⊢; omega) (by omega) (by omega)
              rw [er, Option.bind_some]
              exact ⟨_, rfl, z0 _ _ _ ok ⟨by omega, by omega⟩ (fun _ => by omega)⟩
            · rw [if_neg cd]
              exact ⟨_, rfl, PlOk.nothing kind⟩
          · rw [if_neg ce]
            by_cases c1 : wrap64 (p.1 - Int.tmod s p.2.1) < 0
            · rw [if_pos c1]
              by_cases c2 : Go.bits .and .i64 (wrap64 (wrap64 (p.1 - Int.tmod s p.2.1) + p.2.1)) 1 = 0
              · rw [if_pos c2]; exact ⟨_, rfl, z0 _ _ _ (R64.wrap _) hp.md (fun _ => m1)⟩
              · rw [if_neg c2]; exact ⟨_, rfl, z0 _ _ _ (R64.wrap _) hp.md (fun _ => m1)⟩
            · rw [if_neg c1]
              by_cases c2 : Go.bits .and .i64 (wrap64 (p.1 - Int.tmod s p.2.1)) 1 = 0
              · rw [if_pos c2]; exact ⟨_, rfl, z0 _ _ _ (R64.wrap _) hp.md (fun _ => m1)⟩
              · rw [if_neg c2]; exact ⟨_, rfl, z0 _ _ _ (R64.wrap _) hp.md (fun _ => m1)⟩
        obtain ⟨z, hz, ok⟩ := hc
        exact fin z (by unfold atom_next.f; rw [if_neg n, if_neg k0, if_neg k1, hz]; rfl) ok
theorem zbi {kind : Int} (h0 : 0 ≤ kind) (h2 : kind ≤ 2) {p : atom_Raw.Place} (hp : PlOk kind p) : ∀ (l : List Int) (a : Nat) (ps : List atom_Raw.Place) (xs : List Int), (∀ q ∈ ps, PlOk kind q) → ps.length ≤ 256 →
    ∃ b ps' xs', atom_Raw.row kind p l a ps xs = some (b, ps', xs') ∧ xs'.length = xs.length ∧ (b = true → (∀ q ∈ ps', PlOk kind q) ∧ ps'.length ≤ 256 ∧ ps.length ≤ ps'.length)
  | [], a, ps, xs, hps, hl => ⟨true, ps, xs, rfl, rfl, fun _ => ⟨hps, hl, Nat.le_refl _⟩⟩
  | s :: l, a, ps, xs, hps, hl => by
    obtain ⟨z, hz, ok⟩ := zfw h0 h2 hp s
    rw [atom_Raw.row, hz, Option.bind_some]
    by_cases c : z ∈ ps
    · rw [if_pos c]
      obtain ⟨b, ps', xs', e, h3, h4⟩ := zbi h0 h2 hp l (a + 1) ps (xs.set a ((num1 ps z : Nat) : Int)) hps hl
      exact ⟨b, ps', xs', e, by rw [h3, List.length_set], h4⟩
    · rw [if_neg c]
      by_cases d : ps.length = 256
      · rw [if_pos d]
        exact ⟨false, ps, xs, rfl, rfl, fun h => by cases h⟩
      · rw [if_neg d]
        obtain ⟨b, ps', xs', e, h3, h4⟩ := zbi h0 h2 hp l (a + 1) (ps ++ [z]) (xs.set a ((ps.length : Nat) : Int)) (fun q hq => by
          rcases List.mem_append.1 hq with hq | hq
          · exact hps q hq
          · rw [List.mem_singleton.1 hq]; exact ok) (by simp; omega)
        exact ⟨b, ps', xs', e, by rw [h3, List.length_set], fun hb => by have := h4 hb; exact ⟨this.1, this.2.1, by have := this.2.2; simp at this; omega⟩⟩
theorem zah {α : Type} (d : α) : ∀ (l : List α) (i : Nat), i < l.length → l.getD i d ∈ l := fun l i h => by
  rw [List.getD_eq_getElem?_getD, List.getElem?_eq_getElem h]; exact List.getElem_mem h
theorem zc2 {kind : Int} (h0 : 0 ≤ kind) (h2 : kind ≤ 2) (letters : List Int) : ∀ (k q : Nat) (ps : List atom_Raw.Place) (ac : List Bool) (nx : List (List Int)), (∀ p ∈ ps, PlOk kind p) → ps.length ≤ 256 → 257 ≤ q + k → q ≤ ps.length → ac.length = q → nx.length = q → (∀ r ∈ nx, r.length = letters.length) →
    ∃ z, atom_Raw.go kind letters k q ps ac nx = some z ∧ z.2.1.length = z.2.2.length ∧ z.2.1.length ≤ 256 ∧ (∀ r ∈ z.2.2, r.length = letters.length)
  | 0, q, ps, ac, nx, hps, hl, hk, hq, ha, hn, hr => by omega
  | k + 1, q, ps, ac, nx, hps, hl, hk, hq, ha, hn, hr => by
    rw [atom_Raw.go]
    by_cases c : q < ps.length
    · rw [if_pos c]
      obtain ⟨b, ps', xs', e, h3, h4⟩ := zbi h0 h2 (hps _ (zah atom_Raw.noPlace ps q c)) letters 0 ps (List.replicate letters.length 0) hps hl
      rw [e, Option.bind_some]
      cases b with
      | true =>
        rw [if_pos rfl]
        obtain ⟨h5, h6, h7⟩ := h4 rfl
        refine zc2 h0 h2 letters k (q + 1) ps' _ _ h5 h6 (by omega) (by omega) (by simp [ha]) (by simp [hn]) (fun r hr' => ?_)
        rcases List.mem_append.1 hr' with hr' | hr'
        · exact hr r hr'
        · rw [List.mem_singleton.1 hr']
          have h3' : xs'.length = (List.replicate letters.length (0 : Int)).length := h3
          rw [List.length_replicate] at h3'
          exact h3'
      | false =>
        rw [if_neg (by simp)]
        exact ⟨_, rfl, by rw [ha, hn], by simp only; omega, hr⟩
    · rw [if_neg c]
      exact ⟨_, rfl, by rw [ha, hn], by simp only; omega, hr⟩
end Go.Proofs.Ythgoonohpfoagaa.Pure
namespace Go.Proofs.Ythgoonohpfoagaa.Pure
open Go.RowKit Go.Proofs.YthgoonohpfoagaaW.PrintWords Go.Proofs.YthgoonohpfoagaaW.PrintLast Go.Proofs.YthgoonohpfoagaaW.PrintMore Go.Proofs.Ythgoonohpfoagaa.X
set_option linter.unusedVariables false
theorem zdo {α : Type} [DecidableEq α] {ps : List α} {z : α} (h : z ∈ ps) : num1 ps z < ps.length := List.idxOf_lt_length_of_mem h
theorem zfc {α : Type} [DecidableEq α] {ps : List α} {z : α} (h : z ∈ ps) : ps[num1 ps z]? = some z := by
  rw [List.getElem?_eq_getElem (zdo h)]
  exact congrArg some (List.getElem_idxOf (zdo h))
theorem zc4 {kind : Int} {p : atom_Raw.Place} : ∀ (l : List Int) (a : Nat) (ps : List atom_Raw.Place) (xs : List Int) (ps' : List atom_Raw.Place) (xs' : List Int), atom_Raw.row kind p l a ps xs = some (true, ps', xs') → a + l.length = xs.length →
    (∃ t, ps' = ps ++ t) ∧ xs'.length = xs.length ∧ (∀ i, i < a → xs'[i]? = xs[i]?) ∧
      ∀ j, (h : j < l.length) → ∃ z n, atom_Raw.to kind p l[j] = some z ∧ xs'[a + j]? = some ((n : Nat) : Int) ∧ ps'[n]? = some z
  | [], a, ps, xs, ps', xs', h, hl => by
    rw [atom_Raw.row] at h
    simp only [Option.some.injEq, Prod.mk.injEq, true_and] at h
    obtain ⟨rfl, rfl⟩ := h
    exact ⟨⟨[], by simp⟩, rfl, fun _ _ => rfl, fun j h => absurd h (Nat.not_lt_zero _)⟩
  | s :: l, a, ps, xs, ps', xs', h, hl => by
    rw [atom_Raw.row] at h
    obtain ⟨z, hz, h⟩ := Option.bind_eq_some_iff.mp h
    have hl' : a + 1 + l.length = xs.length := by simp only [List.length_cons] at hl; omega
    have fin : ∀ (q : List atom_Raw.Place) (n : Nat), (∃ t, q = ps ++ t) → q[n]? = some z → atom_Raw.row kind p l (a + 1) q (xs.set a ((n : Nat) : Int)) = some (true, ps', xs') → (∃ t, ps' = ps ++ t) ∧ xs'.length = xs.length ∧ (∀ i, i < a → xs'[i]? = xs[i]?) ∧
        ∀ j, (h : j < (s :: l).length) → ∃ z n, atom_Raw.to kind p (s :: l)[j] = some z ∧ xs'[a + j]? = some ((n : Nat) : Int) ∧ ps'[n]? = some z := by
      rintro q n ⟨t, rfl⟩ hn h
      obtain ⟨⟨t', rfl⟩, h2, h3, h4⟩ := zc4 l (a + 1) _ _ ps' xs' h (by rw [List.length_set]; exact hl')
      refine ⟨⟨t ++ t', by rw [List.append_assoc]⟩, by rw [h2, List.length_set], fun i hi => by rw [h3 i (by omega), List.getElem?_set_ne (by omega)], fun j hj => ?_⟩
      cases j with
      | zero =>
        refine ⟨z, n, hz, ?_, ?_⟩
        · rw [Nat.add_zero, h3 a (by omega), List.getElem?_set_self (by omega)]
        · rw [List.getElem?_append_left (by have := List.getElem?_eq_some_iff.1 hn; exact this.1)]; exact hn
      | succ j =>
        obtain ⟨z', n', e1, e2, e3⟩ := h4 j (by simp only [List.length_cons] at hj; omega)
        exact ⟨z', n', e1, by rw [show a + (j + 1) = a + 1 + j by omega]; exact e2, e3⟩
    by_cases c : z ∈ ps
    · rw [if_pos c] at h
      exact fin ps _ ⟨[], by simp⟩ (zfc c) h
    · rw [if_neg c] at h
      by_cases d : ps.length = 256
      · rw [if_pos d] at h
        cases h
      · rw [if_neg d] at h
        exact fin (ps ++ [z]) ps.length ⟨[z], rfl⟩ (by simp) h
def StOk (kind : Int) (letters : List Int) (ps : List atom_Raw.Place) (ac : List Bool) (nx : List (List Int)) (i : Nat) (p : atom_Raw.Place) : Prop :=
  ac[i]? = some p.2.2.2.2 ∧ ∃ r, nx[i]? = some r ∧ r.length = letters.length ∧ ∀ j, (h : j < letters.length) → ∃ z n, atom_Raw.to kind p letters[j] = some z ∧ r[j]? = some ((n : Nat) : Int) ∧ ps[n]? = some z
theorem StOk.more {kind : Int} {letters : List Int} {ps : List atom_Raw.Place} {ac : List Bool} {nx : List (List Int)} {i : Nat} {p : atom_Raw.Place} (h : StOk kind letters ps ac nx i p) (t : List atom_Raw.Place) (b : List Bool) (c : List (List Int)) : StOk kind letters (ps ++ t) (ac ++ b) (nx ++ c) i p := by
  obtain ⟨h1, r, h2, h3, h4⟩ := h
  refine ⟨by rw [List.getElem?_append_left (List.getElem?_eq_some_iff.1 h1).1]; exact h1, r, by rw [List.getElem?_append_left (List.getElem?_eq_some_iff.1 h2).1]; exact h2, h3, fun j hj => ?_⟩
  obtain ⟨z, n, e1, e2, e3⟩ := h4 j hj
  exact ⟨z, n, e1, e2, by rw [List.getElem?_append_left (List.getElem?_eq_some_iff.1 e3).1]; exact e3⟩
theorem zdw {kind : Int} {letters : List Int} : ∀ (k q : Nat) (ps : List atom_Raw.Place) (ac : List Bool) (nx : List (List Int)) (ac' : List Bool) (nx' : List (List Int)), atom_Raw.go kind letters k q ps ac nx = some (true, ac', nx') →
    q ≤ ps.length → ac.length = q → nx.length = q → (∀ i p, i < q → ps[i]? = some p → StOk kind letters ps ac nx i p) →
    ∃ t, ac'.length = (ps ++ t).length ∧ nx'.length = (ps ++ t).length ∧ ∀ i p, (ps ++ t)[i]? = some p → StOk kind letters (ps ++ t) ac' nx' i p
  | 0, q, ps, ac, nx, ac', nx', h, _, _, _, _ => by cases h
  | k + 1, q, ps, ac, nx, ac', nx', h, hq, ha, hn, hi => by
    rw [atom_Raw.go] at h
    by_cases c : q < ps.length
    · rw [if_pos c] at h
      obtain ⟨⟨b, ps1, xs1⟩, hr, h⟩ := Option.bind_eq_some_iff.mp h
      cases b with
      | false => rw [if_neg (by simp)] at h; simp at h
      | true =>
        rw [if_pos rfl] at h
        obtain ⟨⟨t, rfl⟩, h2, _, h4⟩ := zc4 letters 0 ps _ ps1 xs1 hr (by simp)
        rw [List.length_replicate] at h2
        have pq : (ps ++ t)[q]? = some (ps.getD q atom_Raw.noPlace) := by
          rw [List.getElem?_append_left c, List.getD_eq_getElem?_getD, List.getElem?_eq_getElem c]; rfl
        have tq : ((ps ++ t).getD q atom_Raw.noPlace) = ps.getD q atom_Raw.noPlace := by rw [List.getD_eq_getElem?_getD, pq]; rfl
        obtain ⟨t', e1, e2, e3⟩ := zdw k (q + 1) (ps ++ t) _ _ ac' nx' h (by simp; omega) (by simp [ha]) (by simp [hn]) (fun i p hlt hp => by
          by_cases e : i = q
          · subst e
            rw [pq] at hp
            obtain rfl := Option.some.inj hp
            refine ⟨?_, xs1, ?_, h2, fun j hj => ?_⟩
            · rw [List.getElem?_append_right (by omega), ha, Nat.sub_self]
              exact congrArg (fun z : atom_Raw.Place => some z.2.2.2.2) tq
            · rw [List.getElem?_append_right (by omega), hn, Nat.sub_self]; rfl
            · obtain ⟨z, n, g1, g2, g3⟩ := h4 j hj
              exact ⟨z, n, g1, by rw [Nat.zero_add] at g2; exact g2, g3⟩
          · have hp' : ps[i]? = some p := by rw [List.getElem?_append_left (by omega)] at hp; exact hp
            exact (hi i p (by omega) hp').more t _ _)
        exact ⟨t ++ t', by rw [← List.append_assoc]; exact e1, by rw [← List.append_assoc]; exact e2, by rw [← List.append_assoc]; exact e3⟩
    · rw [if_neg c] at h
      simp only [Option.some.injEq, Prod.mk.injEq, true_and] at h
      obtain ⟨rfl, rfl⟩ := h
      exact ⟨[], by simp; omega, by simp; omega, fun i p hp => by
        rw [List.append_nil] at hp ⊢
        exact hi i p (by have := (List.getElem?_eq_some_iff.1 hp).1; omega) hp⟩
end Go.Proofs.Ythgoonohpfoagaa.Pure
namespace Go.Proofs.Ythgoonohpfoagaa.Pure
open Go.RowKit Go.Proofs.YthgoonohpfoagaaW.PrintWords Go.Proofs.YthgoonohpfoagaaW.PrintLast Go.Proofs.YthgoonohpfoagaaW.PrintMore Go.Proofs.Ythgoonohpfoagaa.X
set_option linter.unusedVariables false
def zaa (kind : Int) (letters : List Int) : List Nat → atom_Raw.Place → Option atom_Raw.Place
  | [], p => some p
  | a :: r, p => (atom_Raw.to kind p (letters.getD a 0)).bind (zaa kind letters r)
theorem zfs {kind : Int} {letters : List Int} {ns : List ByteArray} {ps : List atom_Raw.Place} {ac : List Bool} {nx : List (List Int)} (hn : nx.length = ps.length) (hl : nx.length ≤ 256) (ok : ∀ i p, ps[i]? = some p → StOk kind letters ps ac nx i p)
    {v : List Nat} {w : List Int} (hw : w = v.map fun a => ((a : Nat) : Int)) (hv : ∀ a ∈ v, a < letters.length) (hb : w.length ≤ 9000000000000000000) :
    ∀ (m i : Nat) (q : Nat) (p : atom_Raw.Place), i + m = v.length → ps[q]? = some p → ∃ q' p', zaa kind letters (v.drop i) p = some p' ∧ ps[q']? = some p' ∧ Ev (fun k => tabardref12_Run.l0 k (q : Int) w (i : Int) ns ac nx) ((q' : Nat) : Int) := by
  intro m
  have wl : w.length = v.length := by rw [hw, List.length_map]
  induction m with
  | zero =>
    intro i q p hi hp
    exact ⟨q, p, by rw [List.drop_of_length_le (by omega)]; rfl, hp, Ev.step (fun k => by rw [tabardref12_Run.l0]) (Ev.ncond (by omega) (Ev.fin rfl))⟩
  | succ m ih =>
    intro i q p hi hp
    have ii : i < v.length := by omega
    have hq : q < nx.length := by rw [hn]; exact (List.getElem?_eq_some_iff.1 hp).1
    obtain ⟨_, r, h2, h3, h4⟩ := ok q p hp
    have ha := hv _ (List.getElem_mem ii)
    obtain ⟨z, n, e1, e2, e3⟩ := h4 v[i] ha
    obtain ⟨q', p', g1, g2, g3⟩ := ih (i + 1) n z (by omega) e3
    have rw_ : rd w (i : Int) = ((v[i] : Nat) : Int) := by simp [rd, hw, List.getD_eq_getElem?_getD, ii]
    have rl : rd_L3 nx (q : Int) = r := by simp [rd_L3, List.getD_eq_getElem?_getD, h2]
    have rr : rd r ((v[i] : Nat) : Int) = ((n : Nat) : Int) := by simp [rd, List.getD_eq_getElem?_getD, e2]
    refine ⟨q', p', ?_, g2, Ev.step (fun k => by rw [tabardref12_Run.l0]) (Ev.cond (by omega) (Ev.cond (by omega) (Ev.cond (by omega) (Ev.cond (by omega) ?_))))⟩
    · rw [List.drop_eq_getElem_cons ii, zaa, List.getD_eq_getElem?_getD, List.getElem?_eq_getElem ha, Option.getD_some, e1, Option.bind_some]
      exact g1
    · rw [rw_, rl, rr, w64 (by omega) (by omega)]
      exact Ev.cond (by omega) (Ev.cond (by omega) g3)
theorem zea {kind : Int} {letters : List Int} {ns : List ByteArray} {ps : List atom_Raw.Place} {ac : List Bool} {nx : List (List Int)} (hn : nx.length = ps.length) (ha : ac.length = ps.length) (hl : nx.length ≤ 256) (ok : ∀ i p, ps[i]? = some p → StOk kind letters ps ac nx i p)
    {v : List Nat} {w : List Int} (hw : w = v.map fun a => ((a : Nat) : Int)) (hv : ∀ a ∈ v, a < letters.length) (hb : w.length ≤ 9000000000000000000) {p : atom_Raw.Place} (hp : ps[0]? = some p) :
    ∃ p', zaa kind letters v p = some p' ∧ Ev (fun k => tabardref12_Takes.f k ns ac nx w) p'.2.2.2.2 := by
  obtain ⟨q', p', h1, h2, h3⟩ := zfs (ns := ns) hn hl ok hw hv hb v.length 0 0 p (by omega) hp
  have h3' : Ev (fun k => tabardref12_Run.f k ns ac nx 0 w) ((q' : Nat) : Int) := Ev.congr (fun k => by rw [tabardref12_Run.f]; rfl) h3
  have hq := (List.getElem?_eq_some_iff.1 h2).1
  refine ⟨p', by rw [List.drop_zero] at h1; exact h1, Ev.congr (fun k => by rw [tabardref12_Takes.f]) (Ev.bind h3' ?_)⟩
  refine Ev.cond (by omega) (Ev.cond (by omega) (Ev.fin ?_))
  have := (ok q' p' h2).1
  simp [rdOf, List.getD_eq_getElem?_getD, this]
end Go.Proofs.Ythgoonohpfoagaa.Pure
namespace Go.Proofs.Ythgoonohpfoagaa.Pure
open Go.RowKit Go.Proofs.YthgoonohpfoagaaW.PrintWords Go.Proofs.YthgoonohpfoagaaW.PrintLast Go.Proofs.YthgoonohpfoagaaW.PrintMore Go.Proofs.Ythgoonohpfoagaa.X
set_option linter.unusedVariables false
def zay : List Int → List Int → List Int
  | acc, [] => acc
  | acc, c :: cs => zay (acc ++ acc.map (· + c)) cs
theorem zb1 : ∀ (l acc : List Int) (M : Int), M ≤ 9223372036854775807 → (∀ s ∈ acc, (s.natAbs : Int) + absS l ≤ M) → atom_sums.L acc l = zay acc l ∧ ∀ s ∈ zay acc l, (s.natAbs : Int) ≤ M
  | [], acc, M, hM, h => ⟨rfl, fun s hs => by have := h s hs; simp only [absS] at this; omega⟩
  | c :: l, acc, M, hM, h => by
    have n := za2 l
    have e : (acc.map fun s => wrap64 (s + c)) = acc.map (· + c) := List.map_congr_left (fun s hs => by
      have := h s hs; simp only [absS] at this
      exact w64 (by omega) (by omega))
    rw [atom_sums.L, zay, e]
    refine zb1 l _ M hM (fun s hs => ?_)
    rcases List.mem_append.1 hs with hs | hs
    · have := h s hs; simp only [absS] at this; omega
    · obtain ⟨t, ht, rfl⟩ := List.mem_map.1 hs
      have := h t ht; simp only [absS] at this; omega
theorem zce {r s : Int} (hr : R64 r) (hs : R64 s) : atom_halved.f r s = some ((r - s) / 2) := by
  obtain ⟨r0, r1⟩ := hr
  obtain ⟨s0, s1⟩ := hs
  unfold atom_halved.f chk_Half.f
  simp only [Option.bind_some, and1]
  by_cases c : r % 2 = 0
  · rw [if_pos c]
    by_cases d : s % 2 = 1
    · rw [if_pos d, w64 (x := r / 2 - s / 2) (by omega) (by omega), w64 (by omega) (by omega)]
      exact congrArg some (by omega)
    · rw [if_neg d, w64 (by omega) (by omega)]
      exact congrArg some (by omega)
  · rw [if_neg c, w64 (by omega) (by omega)]
    exact congrArg some (by omega)
end Go.Proofs.Ythgoonohpfoagaa.Pure
namespace Go.Proofs.Ythgoonohpfoagaa.Pure
open Go.RowKit Go.Proofs.YthgoonohpfoagaaW.PrintWords Go.Proofs.YthgoonohpfoagaaW.PrintLast Go.Proofs.YthgoonohpfoagaaW.PrintMore Go.Proofs.Ythgoonohpfoagaa.X
set_option linter.unusedVariables false
theorem zc7 {n : Nat} (h : n ≤ 6) : Ev (fun k => tabardref12_Letters.f k (n : Int)) ((2 ^ n : Nat) : Int) := by
  have all : ∀ i : Fin 7, tabardref12_Letters.f 9 ((i.val : Nat) : Int) = some ((2 ^ i.val : Nat) : Int) := by decide +kernel
  exact Ev.of (fun k => tabardref12_Letters.mono _ k) (all ⟨n, by omega⟩)
theorem zec {ns : List ByteArray} {ac : List Bool} {nx : List (List Int)} (h6 : ns.length ≤ 6) (hr : Ev (fun k => tabardref04_Rises.f k ns) true) (h1 : 1 ≤ ac.length) (h2 : ac.length ≤ 256) (hn : nx.length = ac.length)
    (hx : ∀ r ∈ nx, r.length = 2 ^ ns.length ∧ ∀ x ∈ r, 0 ≤ x ∧ x < (ac.length : Int)) : Ev (fun k => tabardref12_Right.f k ns ac nx) true := by
  have hf : Ev (fun k => tabardref12_Frame.f k ns (ac.length : Int)) true := by
    refine Ev.congr (fun k => by rw [tabardref12_Frame.f]) (Ev.cond (by omega) (Ev.bind hr ?_))
    refine Ev.cond rfl ?_
    refine Ev.cond (by omega) (Ev.fin ?_)
    exact decide_eq_true (by omega)
  have p6 : 2 ^ ns.length ≤ 64 := Nat.le_trans (Nat.pow_le_pow_right (by decide) h6) (by decide)
  refine Ev.congr (fun k => by rw [tabardref12_Right.f]) (Ev.bind hf (Ev.cond rfl ?_))
  rw [show ((nx.length : Int) != (ac.length : Int)) = false by simp [hn]]
  refine Ev.step (fun k => by rw [tabardref12_Right.j0]) (Ev.ncond (by decide) ?_)
  have key : ∀ (m i : Nat), i + m = ac.length → Ev (fun k => tabardref12_Right.l0 k (ac.length : Int) (i : Int) ns ac nx) true := by
    intro m
    induction m with
    | zero => intro i hi; exact Ev.step (fun k => by rw [tabardref12_Right.l0]) (Ev.ncond (by omega) (Ev.fin rfl))
    | succ m ih =>
      intro i hi
      have ii : i < nx.length := by omega
      obtain ⟨rl, rx⟩ := hx _ (List.getElem_mem ii)
      have e : rd_L3 nx (i : Int) = nx[i] := by simp [rd_L3, List.getD_eq_getElem?_getD, ii]
      refine Ev.step (fun k => by rw [tabardref12_Right.l0]) (Ev.cond (by omega) (Ev.cond (by omega) (Ev.cond (by omega) (Ev.bind (zc7 h6) ?_))))
      refine Ev.cond (by rw [e, rl]) ?_
      have inner : ∀ (s j : Nat), j + s = nx[i].length → Ev (fun k => tabardref12_Right.l1 k (ac.length : Int) (i : Int) (j : Int) ns ac nx) true := by
        intro s
        induction s with
        | zero =>
          intro j hj
          have nxt := ih (i + 1) (by omega)
          refine Ev.step (fun k => by rw [tabardref12_Right.l1]) (Ev.cond (by omega) (Ev.cond (by omega) (Ev.ncond (by rw [e]; omega) ?_)))
          rw [w64 (by omega) (by omega)]
          exact nxt
        | succ s ihs =>
          intro j hj
          have jj : j < nx[i].length := by omega
          have xx := rx _ (List.getElem_mem jj)
          have e2 : rd nx[i] (j : Int) = nx[i][j] := by simp [rd, List.getD_eq_getElem?_getD, jj]
          refine Ev.step (fun k => by rw [tabardref12_Right.l1]) (Ev.cond (by omega) (Ev.cond (by omega) (Ev.cond (by rw [e]; omega) (Ev.cond (by omega) ?_))))
          rw [e, e2, w64 (by omega) (by omega)]
          exact Ev.ncond (by omega) (Ev.ncond (by omega) (ihs (j + 1) (by omega)))
      exact inner nx[i].length 0 (by omega)
  exact key ac.length 0 (by omega)
end Go.Proofs.Ythgoonohpfoagaa.Pure
namespace Go.Proofs.Ythgoonohpfoagaa.Pure
open Go.RowKit Go.Proofs.YthgoonohpfoagaaW.PrintWords Go.Proofs.YthgoonohpfoagaaW.PrintLast Go.Proofs.YthgoonohpfoagaaW.PrintMore Go.Proofs.Ythgoonohpfoagaa.X
set_option linter.unusedVariables false
theorem to_le {p : atom_Raw.Place} {s : Int} (hr : R64 p.1) (hs : R64 s) (hm : s ≠ -9223372036854775808) (hp : p.2.2.2.1 = false) : atom_Raw.to 0 p s = some ((p.1 - s) / 2, 0, false, false, decide (p.1 ≥ -s)) := by
  have h := zce hr hs
  obtain ⟨r0, r1⟩ := hr
  obtain ⟨s0, s1⟩ := hs
  unfold atom_Raw.to atom_next.f
  rw [if_neg (by rw [hp]; decide), if_pos rfl, h, Option.bind_some, Option.bind_some, if_pos (R64.wf ⟨by omega, by omega⟩), if_pos (show (Lit.int .i64 0).wf = true by decide), w64 (by omega) (by omega)]
theorem to_eq {p : atom_Raw.Place} {s : Int} (hr : R64 p.1) (hs : R64 s) (hm : s ≠ -9223372036854775808) (hp : p.2.2.2.1 = false) : atom_Raw.to 1 p s = some (if p.1 % 2 = s % 2 then ((p.1 - s) / 2, 0, false, false, decide (p.1 = -s)) else (0, 0, false, true, false)) := by
  have h := zce hr hs
  obtain ⟨r0, r1⟩ := hr
  obtain ⟨s0, s1⟩ := hs
  unfold atom_Raw.to atom_next.f
  rw [if_neg (by rw [hp]; decide), if_neg (by decide), if_pos rfl, atom_even.f, Option.bind_some, and1, and1]
  by_cases c : p.1 % 2 = s % 2
  · rw [if_pos c, if_pos (by rw [c]; simp), h, Option.bind_some, Option.bind_some, if_pos (R64.wf ⟨by omega, by omega⟩), if_pos (show (Lit.int .i64 0).wf = true by decide), w64 (by omega) (by omega)]
    exact congrArg some (by simp only [Prod.mk.injEq, true_and]; exact Bool.eq_iff_iff.2 (by simp))
  · rw [if_neg c, if_neg (by simpa using c), Option.bind_some, if_pos (show (Lit.int .i64 0).wf = true by decide), if_pos (show (Lit.int .i64 0).wf = true by decide)]
theorem zf6 (kind : Int) (s : Int) : atom_Raw.to kind (0, 0, false, true, false) s = some (0, 0, false, true, false) := by
  unfold atom_Raw.to atom_next.f
  rw [if_pos rfl]; rfl
theorem zd1 {r s : Int} (hr : R64 r) (hs : R64 s) : R64 ((r - s) / 2) := by
  obtain ⟨r0, r1⟩ := hr; obtain ⟨s0, s1⟩ := hs
  exact ⟨by omega, by omega⟩
end Go.Proofs.Ythgoonohpfoagaa.Pure
namespace Go.Proofs.Ythgoonohpfoagaa.Pure
open Go.RowKit Go.Proofs.YthgoonohpfoagaaW.PrintWords Go.Proofs.YthgoonohpfoagaaW.PrintLast Go.Proofs.YthgoonohpfoagaaW.PrintMore Go.Proofs.Ythgoonohpfoagaa.X
set_option linter.unusedVariables false
def zar (kind : Int) (S : List Int) (bound md : Int) (ac : List Bool) (nx : List (List Int)) : Prop :=
  ∃ ps : List atom_Raw.Place, ps[0]? = some (bound, md, true, false, false) ∧ ac.length = ps.length ∧ nx.length = ps.length ∧ ps.length ≤ 256 ∧ ∀ i p, ps[i]? = some p → StOk kind S ps ac nx i p
theorem zax : ∀ (l acc : List Int), (atom_sums.L acc l).length = acc.length * 2 ^ l.length := by
  intro l
  induction l with
  | nil => intro acc; simp [atom_sums.L]
  | cons c l ih => intro acc; rw [atom_sums.L, ih, List.length_append, List.length_map, List.length_cons, Nat.pow_succ, Nat.add_mul, Nat.mul_comm (2 ^ l.length) 2, ← Nat.mul_assoc, Nat.mul_two, Nat.add_mul]
theorem zej {kind bound md : Int} {names : List ByteArray} {coefs : List Int} (h0 : names.length * 16 ≤ 140737488351232) (hs : ∀ x ∈ names, x.size ≤ 9223372036854775807) (h1 : coefs.length * 8 ≤ 140737488351232)
    (hw : ∀ x ∈ coefs, (Lit.int .i64 x).wf = true) (hb : (Lit.int .i64 bound).wf = true) (hm : (Lit.int .i64 md).wf = true) :
    ∃ tr ac nx er, Ev (fun k => atom_Raw.f k kind names coefs bound md) (tr, ac, nx, er) ∧ (er = 0 → zag kind names coefs bound md = true ∧ names.length ≤ 6 ∧ tr = names ∧ zar kind (atom_sums.L [0] coefs) bound md ac nx) ∧
      (zag kind names coefs bound md = true → names.length ≤ 6 → er = 0 ∨ er = 140) ∧ (er ≠ 0 → ac = []) := by
  have hc := zc6 kind bound md names coefs h0 hs h1 hw hb
  cases g : zag kind names coefs bound md with
  | false =>
    rw [g, if_neg (by decide)] at hc
    exact ⟨[], [], [], 3, Ev.congr (fun k => by rw [atom_Raw.f]) (Ev.bind hc (Ev.ncond (show ¬ ((3 : Int) = 0) by decide) (Ev.fin rfl))), (fun h => by cases h), (fun h => by cases h), fun _ => rfl⟩
  | true =>
    rw [g, if_pos rfl] at hc
    have g' := g
    unfold zag at g'
    simp only [Bool.and_eq_true, decide_eq_true_eq] at g'
    obtain ⟨g0, g1, g2, g3, g4, g5⟩ := g'
    by_cases c : (6 : Int) < (names.length : Int)
    · exact ⟨[], [], [], 150, Ev.congr (fun k => by rw [atom_Raw.f]) (Ev.bind hc (Ev.cond rfl (Ev.cond c (Ev.fin rfl)))), (fun h => by cases h), (fun _ h => by omega), fun _ => rfl⟩
    · have hcl : slices_Clone_string_string.f names = some names := by unfold slices_Clone_string_string.f; exact if_pos (by omega)
      have hsl : atom_sums.f coefs = some (atom_sums.L [0] coefs) := by unfold atom_sums.f; exact if_pos (by omega)
      have ok : PlOk kind (bound, md, true, false, false) := ⟨zam hb, zam hm, fun _ hk => by
        rw [if_pos hk, Bool.and_eq_true, decide_eq_true_eq] at g5
        exact g5.1⟩
      obtain ⟨⟨z1, z2, z3⟩, hz, y1, y2, y3⟩ := zc2 g0 g1 (atom_sums.L [0] coefs) 257 0 [(bound, md, true, false, false)] [] [] (fun p hp => by rw [List.mem_singleton.1 hp]; exact ok) (by simp) (by omega) (by simp) rfl rfl (fun r h => by cases h)
      cases z1 with
      | true =>
        obtain ⟨t, e1, e2, e3⟩ := zdw 257 0 [(bound, md, true, false, false)] [] [] z2 z3 hz (by simp) rfl rfl (fun i p h => by omega)
        refine ⟨names, z2, z3, 0, Ev.congr (fun k => by rw [atom_Raw.f]) (Ev.bind hc (Ev.cond rfl (Ev.ncond c (Ev.fin' ?_)))), (fun _ => ⟨rfl, by omega, rfl, _, rfl, e1, e2, by rw [← e1]; exact y2, e3⟩), (fun _ _ => .inl rfl), fun h => absurd rfl h⟩
        rw [hcl, Option.bind_some, hsl, Option.bind_some, if_pos hb, if_pos hm, hz, Option.bind_some, if_pos rfl]
      | false =>
        refine ⟨[], [], [], 140, Ev.congr (fun k => by rw [atom_Raw.f]) (Ev.bind hc (Ev.cond rfl (Ev.ncond c (Ev.fin' ?_)))), (fun h => by cases h), (fun _ _ => .inr rfl), fun _ => rfl⟩
        rw [hcl, Option.bind_some, hsl, Option.bind_some, if_pos hb, if_pos hm, hz, Option.bind_some, if_neg (by simp)]
theorem zar.one {kind bound md : Int} {S : List Int} {ac : List Bool} {nx : List (List Int)} (m : zar kind S bound md ac nx) : 1 ≤ ac.length ∧ ac.length ≤ 256 ∧ nx.length = ac.length ∧ ∀ r ∈ nx, r.length = S.length ∧ ∀ x ∈ r, 0 ≤ x ∧ x < (ac.length : Int) := by
  obtain ⟨ps, p0, pa, pn, p6, ok⟩ := m
  have l0 := (List.getElem?_eq_some_iff.1 p0).1
  refine ⟨by omega, by omega, by omega, fun r hr => ?_⟩
  obtain ⟨i, hi, rfl⟩ := List.getElem_of_mem hr
  have hi' : i < ps.length := by omega
  obtain ⟨_, r', e1, e2, e3⟩ := ok i ps[i] (List.getElem?_eq_getElem hi')
  rw [List.getElem?_eq_getElem hi] at e1
  obtain rfl := Option.some.inj e1
  refine ⟨e2, fun x hx => ?_⟩
  obtain ⟨j, hj, rfl⟩ := List.getElem_of_mem hx
  obtain ⟨z, n, _, g2, g3⟩ := e3 j (by omega)
  rw [List.getElem?_eq_getElem hj] at g2
  have := Option.some.inj g2
  have := (List.getElem?_eq_some_iff.1 g3).1
  omega
theorem zar.right {kind bound md : Int} {S : List Int} {ac : List Bool} {nx : List (List Int)} {ns : List ByteArray} (m : zar kind S bound md ac nx) (h6 : ns.length ≤ 6) (hs : ∀ x ∈ ns, x.size ≤ 9223372036854775807) (hr : za4 ns = true) (hS : S.length = 2 ^ ns.length) :
    Ev (fun k => tabardref12_Right.f k ns ac nx) true := by
  obtain ⟨h1, h2, h3, h4⟩ := m.one
  refine zec h6 ?_ h1 h2 h3 (fun r hr => by rw [← hS]; exact h4 r hr)
  have := zei ns (by omega) hs
  rw [hr] at this
  exact this
end Go.Proofs.Ythgoonohpfoagaa.Pure
namespace Go.Proofs.Ythgoonohpfoagaa.Pure
open Go.RowKit Go.Proofs.YthgoonohpfoagaaW.PrintWords Go.Proofs.YthgoonohpfoagaaW.PrintLast Go.Proofs.YthgoonohpfoagaaW.PrintMore Go.Proofs.Ythgoonohpfoagaa.X
set_option linter.unusedVariables false
theorem zd7 {a b : List Int} (h : a.length = b.length) (he : ∀ i, i < a.length → rd a i = rd b i) : a = b := by
  apply List.ext_getElem h
  intro i h1 h2
  have := he i h1
  simp only [rd, Int.toNat_natCast, List.getD_eq_getElem?_getD, List.getElem?_eq_getElem h1, List.getElem?_eq_getElem h2, Option.getD_some] at this
  exact this
def I64 (v : Int) : Prop := -9223372036854775808 ≤ v ∧ v ≤ 9223372036854775807
theorem zfa {v : Int} (h : I64 v) : I64 (v / 2) := by unfold I64 at *; omega
def AllI (l : List Int) : Prop := ∀ v ∈ l, I64 v
theorem zf2 {l : List Int} (h : AllI l) {i : Nat} (hi : i < l.length) : I64 (rd l (i : Int)) := by
  rw [zab, List.getD_eq_getElem?_getD, List.getElem?_eq_getElem hi]
  exact h _ (List.getElem_mem hi)
def dgt (v : Int) (i : Nat) : Nat := (v / 2 ^ i % 2).toNat
theorem dgt_lt (v : Int) (i : Nat) : dgt v i < 2 := by unfold dgt; omega
theorem zdx (v : Int) (i : Nat) : (dgt v i : Int) = v / 2 ^ i % 2 := by unfold dgt; omega
theorem zfv {x : Int} (h : I64 x) : Go.bits .and .i64 x 1 = x % 2 := by
  unfold I64 at h
  have e0 : Go.bits .and .i64 x 1 = IntKind.i64.wrap ((BitVec.ofInt 64 x &&& BitVec.ofInt 64 1).toNat : Int) := rfl
  have e1 : (BitVec.ofInt 64 x &&& BitVec.ofInt 64 1).toNat = (BitVec.ofInt 64 x).toNat % 2 := by
    rw [BitVec.toNat_and, show (BitVec.ofInt 64 1).toNat = 2 ^ 1 - 1 from rfl, Nat.and_two_pow_sub_one_eq_mod]
  have hw : ∀ z : Int, IntKind.i64.wrap z = (z + 9223372036854775808) % 18446744073709551616 - 9223372036854775808 := fun z => IntKind.wrap_i64 z
  rw [e0, e1, hw, BitVec.toNat_ofInt]
  omega
theorem zgl {v : Int} (h : I64 v) (i : Nat) : I64 (v / 2 ^ i) := by
  induction i with
  | zero => simpa using h
  | succ i ih =>
    have e : v / 2 ^ (i + 1) = v / 2 ^ i / 2 := by rw [Int.pow_succ, Int.ediv_ediv_of_nonneg (Int.pow_nonneg (by omega))]
    rw [e]; exact zfa ih
theorem zgf (v : Int) {i : Nat} (h : i ≤ 64) : shr .i64 v (i : Int) = v / 2 ^ i := by
  unfold shr
  rw [Int.toNat_natCast, Nat.min_eq_left (by simpa [IntKind.bits] using h)]
theorem zfe {v : Int} (h : I64 v) {i : Nat} (hi : i ≤ 64) : Go.bits .and .i64 (shr .i64 v (i : Int)) 1 = (dgt v i : Int) := by
  rw [zgf v hi, zfv (zgl h i), zdx]
end Go.Proofs.Ythgoonohpfoagaa.Pure
namespace Go.Proofs.Ythgoonohpfoagaa.Pure
open Go.RowKit Go.Proofs.YthgoonohpfoagaaW.PrintWords Go.Proofs.YthgoonohpfoagaaW.PrintLast Go.Proofs.YthgoonohpfoagaaW.PrintMore Go.Proofs.Ythgoonohpfoagaa.X
set_option linter.unusedVariables false
def lt (l : List Int) : Nat → Nat → Nat
  | 0, _ => 0
  | t + 1, i => lt l t i + dgt (rd l (t : Int)) i * 2 ^ t
theorem zdn {t : Nat} (h : t ≤ 6) : 2 ^ t ≤ 64 := by
  have : 2 ^ t ≤ 2 ^ 6 := Nat.pow_le_pow_right (by omega) h
  simpa using this
end Go.Proofs.Ythgoonohpfoagaa.Pure
namespace Go.Proofs.Ythgoonohpfoagaa.Pure
open Go.RowKit Go.Proofs.YthgoonohpfoagaaW.PrintWords Go.Proofs.YthgoonohpfoagaaW.PrintLast Go.Proofs.YthgoonohpfoagaaW.PrintMore Go.Proofs.Ythgoonohpfoagaa.X
set_option linter.unusedVariables false
def Bits (l : List Int) : Prop := ∀ d ∈ l, d = 0 ∨ d = 1
instance (l : List Int) : Decidable (Bits l) := inferInstanceAs (Decidable (∀ d ∈ l, d = 0 ∨ d = 1))
def uv : List Int → Nat
  | [] => 0
  | d :: ds => d.toNat + 2 * uv ds
def tv : List Int → Int
  | [] => 0
  | [d] => -d
  | d :: e :: ds => d + 2 * tv (e :: ds)
theorem zbh {d : Int} {l : List Int} (h : Bits (d :: l)) : Bits l := fun x hx => h x (List.mem_cons_of_mem _ hx)
theorem zbl {d : Int} {l : List Int} (h : Bits (d :: l)) : d = 0 ∨ d = 1 := h d (List.mem_cons_self ..)
theorem zeb {l : List Int} (h : Bits l) : uv l < 2 ^ l.length := by
  induction l with
  | nil => simp [uv]
  | cons d ds ih =>
    have := ih (zbh h)
    rw [uv, List.length_cons, Nat.pow_succ]
    rcases zbl h with rfl | rfl <;> simp <;> omega
theorem tv_uv {l : List Int} (h : Bits l) (hl : l ≠ []) : tv l = (uv l : Int) - (if 2 ^ (l.length - 1) ≤ uv l then ((2 ^ l.length : Nat) : Int) else 0) := by
  induction l with
  | nil => exact absurd rfl hl
  | cons d ds ih =>
    cases ds with
    | nil => rcases zbl h with rfl | rfl <;> simp [tv, uv]
    | cons e ds =>
      have ih' := ih (zbh h) (by simp)
      have e3 : uv (d :: e :: ds) = d.toNat + 2 * uv (e :: ds) := rfl
      rw [tv, ih', e3]
      simp only [List.length_cons, Nat.add_sub_cancel] at ih' ⊢
      generalize uv (e :: ds) = u
      have e1 : 2 ^ (ds.length + 1) = 2 * 2 ^ ds.length := by rw [Nat.pow_succ, Nat.mul_comm]
      have e2 : 2 ^ (ds.length + 1 + 1) = 2 * 2 ^ (ds.length + 1) := by rw [Nat.pow_succ, Nat.mul_comm]
      rw [e2, e1]
      generalize 2 ^ ds.length = p
      rcases zbl h with rfl | rfl
      · by_cases hp : p ≤ u
        · rw [if_pos hp, if_pos (by simp; omega)]; simp; omega
        · rw [if_neg hp, if_neg (by simp; omega)]; simp
      · by_cases hp : p ≤ u
        · rw [if_pos hp, if_pos (by simp; omega)]; simp; omega
        · rw [if_neg hp, if_neg (by simp; omega)]; simp
theorem tv_bd {l : List Int} (h : Bits l) (hl : l ≠ []) : -((2 ^ (l.length - 1) : Nat) : Int) ≤ tv l ∧ tv l < ((2 ^ (l.length - 1) : Nat) : Int) := by
  have h1 := zeb h
  have h2 := tv_uv h hl
  have h3 : 2 ^ l.length = 2 * 2 ^ (l.length - 1) := by
    have : l.length ≠ 0 := fun e => hl (List.eq_nil_of_length_eq_zero e)
    rw [← Nat.pow_succ']; congr 1; omega
  rw [h3] at h1 h2
  rw [h2]
  generalize 2 ^ (l.length - 1) = p at *
  split <;> omega
theorem pow63 {m : Nat} (h : m ≤ 63) : 2 ^ m ≤ 9223372036854775808 := by
  have : 2 ^ m ≤ 2 ^ 63 := Nat.pow_le_pow_right (by omega) h
  simpa using this
theorem tv_i64 {l : List Int} (h : Bits l) (hl : l ≠ []) (h64 : l.length ≤ 64) : I64 (tv l) := by
  have := tv_bd h hl
  have := pow63 (show l.length - 1 ≤ 63 by omega)
  unfold I64
  omega
def numS (l : List Int) : Int × Int := if l = [] ∨ ¬ Bits l then (0, 3) else if l.length > 64 then (0, 31) else (tv l, 0)
theorem zfo (l : List Int) : Bits l ∨ ∃ i, i < l.length ∧ (∀ j, j < i → rd l (j : Int) = 0 ∨ rd l (j : Int) = 1) ∧ rd l (i : Int) ≠ 0 ∧ rd l (i : Int) ≠ 1 := by
  induction l with
  | nil => exact .inl fun d hd => by simp at hd
  | cons d ds ih =>
    by_cases hd : d = 0 ∨ d = 1
    · rcases ih with ih | ⟨i, h1, h2, h3⟩
      · exact .inl fun x hx => by
          rcases List.mem_cons.1 hx with rfl | hx
          · exact hd
          · exact ih x hx
      · refine .inr ⟨i + 1, by simpa using h1, fun j hj => ?_, by simpa [rd] using h3⟩
        cases j with
        | zero => simpa [rd] using hd
        | succ j => have := h2 j (by omega); simpa [rd] using this
    · exact .inr ⟨0, by simp, fun j hj => absurd hj (Nat.not_lt_zero _), by simpa [rd] using not_or.1 hd⟩
theorem zgj {l : List Int} (h : Bits l) {i : Nat} (hi : i < l.length) : rd l (i : Int) = 0 ∨ rd l (i : Int) = 1 := by
  rw [zab, List.getD_eq_getElem?_getD, List.getElem?_eq_getElem hi]
  exact h _ (List.getElem_mem hi)
theorem zdf (l : List Int) : l.any noDigit = decide (¬ Bits l) := by
  rw [Bool.eq_iff_iff, List.any_eq_true, decide_eq_true_iff]
  constructor
  · rintro ⟨x, hx, hn⟩ hb
    rcases hb x hx with rfl | rfl <;> simp [noDigit] at hn
  · intro hb
    rcases zfo l with h | ⟨i, h1, _, h2, h3⟩
    · exact absurd h hb
    · rw [zab, List.getD_eq_getElem?_getD, List.getElem?_eq_getElem h1] at h2 h3
      exact ⟨_, List.getElem_mem h1, by simp [noDigit]; exact ⟨h2, h3⟩⟩
theorem or_i64 {u d i : Nat} (hu : u < 2 ^ i) (hd : d < 2) (hi : i ≤ 63) : Go.bits .or .i64 (wrap64 (u : Int)) (shl .i64 (d : Int) (i : Int)) = wrap64 ((u + d * 2 ^ i : Nat) : Int) := by
  have hp := pow63 hi
  have hdp : d * 2 ^ i ≤ 1 * 2 ^ i := Nat.mul_le_mul_right _ (by omega)
  have e0 : ∀ x y : Int, Go.bits .or .i64 x y = IntKind.i64.wrap ((BitVec.ofInt 64 x ||| BitVec.ofInt 64 y).toNat : Int) := fun _ _ => rfl
  have hw : ∀ z : Int, IntKind.i64.wrap z = wrap64 z := fun z => i64_w z
  have eb : ∀ z : Nat, z < 18446744073709551616 → (BitVec.ofInt 64 (wrap64 (z : Int))).toNat = z := by
    intro z hz
    rw [BitVec.toNat_ofInt]
    unfold wrap64
    omega
  have e1 : shl .i64 (d : Int) (i : Int) = wrap64 ((d * 2 ^ i : Nat) : Int) := by
    unfold shl
    rw [Int.toNat_natCast, Nat.min_eq_left (by simp [IntKind.bits]; omega), show (d : Int) * 2 ^ i = ((d * 2 ^ i : Nat) : Int) by simp, hw]
  rw [e0, e1, BitVec.toNat_or, eb u (by omega), eb _ (by omega), hw, Nat.or_comm, Nat.mul_comm d, ← Nat.two_pow_add_eq_or_of_lt hu d]
  congr 2
  omega
theorem zf7 (l : List Int) (h : Bits l) (i : Nat) (hi : i < l.length) : uv (l.take (i + 1)) = uv (l.take i) + (rd l (i : Int)).toNat * 2 ^ i := by
  induction l generalizing i with
  | nil => simp at hi
  | cons d ds ih =>
    cases i with
    | zero => simp [uv, rd]
    | succ i =>
      rw [List.take_succ_cons, List.take_succ_cons, uv, uv, ih (zbh h) i (by simpa using hi)]
      have : rd (d :: ds) ((i + 1 : Nat) : Int) = rd ds (i : Int) := by simp [rd]
      rw [this, Nat.pow_succ, Nat.mul_add, Nat.add_assoc]
      congr 2
      rw [Nat.mul_comm 2, Nat.mul_assoc]
theorem zet {l : List Int} (hl : l.length ≤ 9000000000000000000) : Ev (fun k => word_Number.f k l) (numS l) := by
  refine Ev.congr (fun k => by rw [word_Number.f]) ?_
  unfold numS
  have bad : Ev (fun k => word_Number.j0 k l true) ((0 : Int), 3) := Ev.step (fun k => by rw [word_Number.j0]) (Ev.cond rfl (Ev.now _))
  refine Ev.ite (fun h0 => ?_) (fun h0 => ?_)
  · rw [if_pos (.inl (List.eq_nil_of_length_eq_zero (by omega)))]; exact bad
  have hne : l ≠ [] := fun e => h0 (by rw [e]; rfl)
  refine Ev.ret (show slices_ContainsFunc_int_int.f l = some (decide (¬ Bits l)) by unfold slices_ContainsFunc_int_int.f; rw [zdf]) ?_
  by_cases hnb : ¬ Bits l
  · rw [if_pos (.inr hnb), decide_eq_true hnb]; exact bad
  have hb : Bits l := Decidable.not_not.1 hnb
  rw [if_neg (fun h => h.elim hne (fun h => h hb)), decide_eq_false (fun h => h hb)]
  refine Ev.step (fun k => by rw [word_Number.j0]) (Ev.ncond (by simp) ?_)
  by_cases h64 : l.length > 64
  · rw [if_pos h64]; exact Ev.cond (by omega) (Ev.now _)
  rw [if_neg h64]
  refine Ev.ncond (by omega) ?_
  have loop : ∀ (d i : Nat), i + d = l.length → Ev (fun k => word_Number.l0 k l (wrap64 ((uv (l.take i) : Nat) : Int)) l (l.length : Int) (i : Int)) (tv l, 0) := by
    intro d
    induction d with
    | zero =>
      intro i hi
      refine Ev.step (fun k => by rw [word_Number.l0]) (Ev.ncond (by omega) ?_)
      have es : wrap64 (64 - (l.length : Int)) = ((64 - l.length : Nat) : Int) := by rw [w64 (by omega) (by omega)]; omega
      rw [es]
      refine Ev.cond (by omega) (Ev.fin ?_)
      rw [List.take_of_length_le (by omega), tv_uv hb hne]
      have hu := zeb hb
      have h1 : 2 ^ l.length * 2 ^ (64 - l.length) = 18446744073709551616 := by rw [← Nat.pow_add, show l.length + (64 - l.length) = 64 by omega]
      have h3 : 2 ^ l.length = 2 * 2 ^ (l.length - 1) := by
        rw [← Nat.pow_succ']; congr 1; omega
      have hw : ∀ z : Int, IntKind.i64.wrap z = wrap64 z := fun z => i64_w z
      unfold shr shl
      rw [Int.toNat_natCast, Nat.min_eq_left (by simp [IntKind.bits]), hw]
      have hc : (2 : Int) ^ (64 - l.length) = ((2 ^ (64 - l.length) : Nat) : Int) := by simp
      rw [hc]
      have hpos : 0 < 2 ^ (64 - l.length) := Nat.two_pow_pos _
      generalize 2 ^ (64 - l.length) = s at h1 hpos
      rw [h3] at h1 hu ⊢
      generalize 2 ^ (l.length - 1) = p at h1 hu ⊢
      generalize uv l = u at hu ⊢
      have hps : 2 * (p * s) = 18446744073709551616 := by rw [← Nat.mul_assoc]; exact h1
      have hmod : wrap64 (wrap64 (u : Int) * (s : Int)) = wrap64 ((u * s : Nat) : Int) := by
        unfold wrap64
        have : ∃ q : Int, (((u : Int) + 9223372036854775808) % 18446744073709551616 - 9223372036854775808) = (u : Int) - 18446744073709551616 * q := ⟨((u : Int) + 9223372036854775808) / 18446744073709551616, by omega⟩
        obtain ⟨q, hq⟩ := this
        rw [hq, Int.sub_mul, Int.mul_assoc]
        generalize q * (s : Int) = z
        rw [show ((u * s : Nat) : Int) = (u : Int) * (s : Int) by simp]
        generalize (u : Int) * (s : Int) = y
        omega
      rw [hmod]
      congr 1
      by_cases hp : p ≤ u
      · rw [if_pos hp]
        have a1 : p * s ≤ u * s := Nat.mul_le_mul_right _ hp
        have a2 : u * s < 2 * p * s := Nat.mul_lt_mul_of_pos_right hu hpos
        rw [h1] at a2
        have : wrap64 ((u * s : Nat) : Int) = ((u : Int) - ((2 * p : Nat) : Int)) * (s : Int) := by
          rw [Int.sub_mul, show ((2 * p : Nat) : Int) * (s : Int) = ((2 * p * s : Nat) : Int) by simp, h1, show (u : Int) * (s : Int) = ((u * s : Nat) : Int) by simp]
          unfold wrap64
          generalize u * s = y at a1 a2
          omega
        rw [this, Int.mul_ediv_cancel _ (by omega)]
      · rw [if_neg hp]
        have a1 : u * s < p * s := Nat.mul_lt_mul_of_pos_right (by omega) hpos
        have : wrap64 ((u * s : Nat) : Int) = (u : Int) * (s : Int) := by
          rw [w64 (by omega) (by omega)]; simp
        rw [this, Int.mul_ediv_cancel _ (by omega)]
        simp
    | succ d ih =>
      intro i hi
      refine Ev.step (fun k => by rw [word_Number.l0]) ?_
      refine Ev.cond (by omega) (Ev.cond (by omega) (Ev.cond (by omega) ?_))
      have hbi := zgj hb (show i < l.length by omega)
      have hui := zeb (l := l.take i) (fun x hx => hb x (List.mem_of_mem_take hx))
      rw [List.length_take, Nat.min_eq_left (by omega)] at hui
      have e1 : rd l (i : Int) = (((rd l (i : Int)).toNat : Nat) : Int) := by omega
      have hd : (rd l (i : Int)).toNat < 2 := by omega
      have e2 := or_i64 hui hd (show i ≤ 63 by omega)
      rw [← e1, ← zf7 l hb i (by omega)] at e2
      rw [e2, w64 (x := (i : Int) + 1) (by omega) (by omega)]
      exact ih (i + 1) (by omega)
  have := loop l.length 0 (by omega)
  simpa [uv, wrap64] using this
end Go.Proofs.Ythgoonohpfoagaa.Pure
namespace Go.Proofs.Ythgoonohpfoagaa.Pure
open Go.RowKit Go.Proofs.YthgoonohpfoagaaW.PrintWords Go.Proofs.YthgoonohpfoagaaW.PrintLast Go.Proofs.YthgoonohpfoagaaW.PrintMore Go.Proofs.Ythgoonohpfoagaa.X
set_option linter.unusedVariables false
theorem scan (P : Int → Prop) [DecidablePred P] (l : List Int) : (∀ i : Nat, i < l.length → P (rd l (i : Int))) ∨ ∃ i : Nat, i < l.length ∧ (∀ j : Nat, j < i → P (rd l (j : Int))) ∧ ¬ P (rd l (i : Int)) := by
  induction l with
  | nil => exact .inl fun i hi => by simp at hi
  | cons d ds ih =>
    by_cases hd : P d
    · rcases ih with ih | ⟨i, h1, h2, h3⟩
      · refine .inl fun i hi => ?_
        cases i with
        | zero => simpa [rd] using hd
        | succ i => have := ih i (by simpa using hi); simpa [rd] using this
      · refine .inr ⟨i + 1, by simpa using h1, fun j hj => ?_, by simpa [rd] using h3⟩
        cases j with
        | zero => simpa [rd] using hd
        | succ j => have := h2 j (by omega); simpa [rd] using this
    · exact .inr ⟨0, by simp, fun j hj => absurd hj (Nat.not_lt_zero _), by simpa [rd] using hd⟩
theorem ze2 {P : Int → Prop} {l : List Int} (h : ∀ i : Nat, i < l.length → P (rd l (i : Int))) : ∀ a ∈ l, P a := by
  intro d hd
  obtain ⟨i, hi, rfl⟩ := List.getElem_of_mem hd
  have := h i hi
  rwa [zab, List.getD_eq_getElem?_getD, List.getElem?_eq_getElem hi] at this
theorem zep {P : Int → Prop} {l : List Int} (h : ∀ a ∈ l, P a) {i : Nat} (hi : i < l.length) : P (rd l (i : Int)) := by
  rw [zab, List.getD_eq_getElem?_getD, List.getElem?_eq_getElem hi]
  exact h _ (List.getElem_mem hi)
def zap (w : List Int) (k : Nat) : Prop := ∀ a ∈ w, 0 ≤ a ∧ a < ((2 ^ k : Nat) : Int)
instance (w : List Int) (k : Nat) : Decidable (zap w k) := inferInstanceAs (Decidable (∀ a ∈ w, 0 ≤ a ∧ a < ((2 ^ k : Nat) : Int)))
def trk (w : List Int) (t : Nat) : List Int := w.map fun a => (dgt a t : Int)
theorem zal (w : List Int) (t : Nat) : (trk w t).length = w.length := by simp [trk]
theorem trk_rd (w : List Int) (t : Nat) {i : Nat} (hi : i < w.length) : rd (trk w t) (i : Int) = (dgt (rd w (i : Int)) t : Int) := by
  rw [zab, List.getD_eq_getElem?_getD, List.getElem?_eq_getElem (by rw [zal]; exact hi), zab, List.getD_eq_getElem?_getD, List.getElem?_eq_getElem hi]
  simp [trk]
theorem zcs (w : List Int) (t : Nat) : Bits (trk w t) := by
  intro d hd
  simp only [trk, List.mem_map] at hd
  obtain ⟨a, _, rfl⟩ := hd
  have := dgt_lt a t
  omega
theorem zez {w : List Int} (h : w ≠ []) (t : Nat) : trk w t ≠ [] := by simpa [trk] using h
def tup (w : List Int) (k : Nat) : List Int := (List.range k).map fun t => tv (trk w t)
theorem zd9 (w : List Int) (k : Nat) : (tup w k).length = k := by simp [tup]
def decS (w : List Int) (k : Int) : List Int × Int :=
  if k < 0 ∨ k > 6 then ([], 150) else if w = [] then ([], 3) else if w.length > 64 then ([], 31) else if zap w k.toNat then (tup w k.toNat, 0) else ([], 30)
theorem zdg {w : List Int} {k : Nat} (hk : k ≤ 6) (h : zap w k) : AllI w := fun a ha => by
  have h1 := h a ha
  have h2 := zdn hk
  unfold I64; omega
theorem zff {a : Int} {t : Nat} (h : I64 a) (h0 : 0 ≤ a) (ht : t ≤ 61) : bits_Digit.f a (t : Int) = some (dgt a t : Int) := by
  unfold bits_Digit.f
  rw [if_neg (by omega), if_neg (by omega), if_neg (by omega), if_pos (by omega), zfe h (by omega)]
def tset (w : List Int) (k t : Nat) : List Int := (List.range k).map fun j => if j < t then tv (trk w j) else 0
theorem zbr (w : List Int) (k t : Nat) : (tset w k t).length = k := by simp [tset]
theorem zfy (w : List Int) {k t : Nat} (h : t < k) : (tset w k t).set t (tv (trk w t)) = tset w k (t + 1) := by
  apply List.ext_getElem
  · simp [tset]
  · intro j h1 h2
    rw [List.getElem_set]
    by_cases e : t = j
    · subst e; simp [tset]
    · rw [if_neg e]
      simp only [tset, List.getElem_map, List.getElem_range]
      by_cases hj : j < t
      · rw [if_pos hj, if_pos (by omega)]
      · rw [if_neg hj, if_neg (by omega)]
theorem zek (w : List Int) (k : Nat) : tset w k 0 = List.replicate k 0 := by
  apply List.ext_getElem
  · simp [tset]
  · intro j h1 h2; simp [tset]
theorem zel (w : List Int) (k : Nat) : tset w k k = tup w k := by
  unfold tset tup
  apply List.map_congr_left
  intro j hj
  rw [List.mem_range] at hj
  rw [if_pos hj]
theorem rd_set (l : List Int) (i j : Nat) (x : Int) (hi : i < l.length) : rd (l.set i x) (j : Int) = if i = j then x else rd l (j : Int) := by
  rw [zab, zab, List.getD_eq_getElem?_getD, List.getD_eq_getElem?_getD, List.getElem?_set]
  by_cases h : i = j
  · subst h; simp [hi]
  · simp [h]
theorem ze5 {w : List Int} (hne : w ≠ []) (h64 : w.length ≤ 64) (t : Nat) : numS (trk w t) = (tv (trk w t), 0) := by
  unfold numS
  rw [if_neg (fun h => h.elim (zez hne t) (fun h => h (zcs w t))), if_neg (by rw [zal]; omega)]
theorem zew {w : List Int} (hl : w.length ≤ 9000000000000000000) (k : Int) : Ev (fun n => word_Decode.f n w k) (decS w k) := by
  refine Ev.congr (fun n => by rw [word_Decode.f]) ?_
  unfold decS
  have bad : Ev (fun n => word_Decode.j0 n w k true) (([] : List Int), 150) := Ev.step (fun n => by rw [word_Decode.j0]) (Ev.cond rfl (Ev.now _))
  refine Ev.ite (fun hc => ?_) (fun hc => ?_)
  · rw [if_pos (.inl hc)]; exact bad
  by_cases h6 : k > 6
  · rw [if_pos (.inr h6), decide_eq_true h6]; exact bad
  rw [if_neg (by omega), decide_eq_false h6]
  obtain ⟨m, rfl⟩ := Int.eq_ofNat_of_zero_le (show 0 ≤ k by omega)
  rw [Int.toNat_natCast]
  refine Ev.step (fun n => by rw [word_Decode.j0]) ?_
  refine Ev.ncond (by simp) ?_
  refine Ev.ite (fun h0 => ?_) (fun h0 => ?_)
  · rw [if_pos (List.eq_nil_of_length_eq_zero (by omega))]; exact Ev.now _
  have hne : w ≠ [] := fun e => h0 (by rw [e]; rfl)
  rw [if_neg hne]
  by_cases h64 : w.length > 64
  · rw [if_pos h64]; exact Ev.cond (by omega) (Ev.now _)
  rw [if_neg h64]
  refine Ev.ncond (by omega) ?_
  have hp := zdn (show m ≤ 6 by omega)
  have es : shl .i64 1 (m : Int) = ((2 ^ m : Nat) : Int) := by
    unfold shl
    rw [Int.toNat_natCast, Nat.min_eq_left (by simp [IntKind.bits]; omega), Int.one_mul, show (2 : Int) ^ m = ((2 ^ m : Nat) : Int) by simp, i64_w]
    generalize 2 ^ m = p at hp
    exact w64 (by omega) (by omega)
  rcases scan (fun a => 0 ≤ a ∧ a < ((2 ^ m : Nat) : Int)) w with hg | ⟨z, hz, hz1, hz2⟩
  · have hL : zap w m := ze2 hg
    have hA := zdg (by omega) hL
    rw [if_pos hL]
    have l2 : ∀ (t : Nat), t < m → ∀ (d i : Nat) (buf : List Int), i + d = w.length → buf.length = w.length → (∀ j : Nat, j < i → rd buf (j : Int) = (dgt (rd w (j : Int)) t : Int)) →
        (Ev (fun n => word_Decode.l1 n w (tset w m (t + 1)) (trk w t) (m : Int) ((t + 1 : Nat) : Int)) (tup w m, 0)) →
        Ev (fun n => word_Decode.l2 n w (tset w m t) buf (t : Int) (m : Int) (t : Int) w (w.length : Int) (i : Int)) (tup w m, 0) := by
      intro t ht d
      induction d with
      | zero =>
        intro i buf hi hbl hb hk
        have hbuf : buf = trk w t := by
          refine zd7 (by rw [zal]; exact hbl) fun j hj => ?_
          rw [hb j (by omega), trk_rd w t (by omega)]
        refine Ev.step (fun n => by rw [word_Decode.l2]) ?_
        refine Ev.ncond (by omega) ?_
        have hn := zet (l := buf) (by omega)
        rw [hbuf, ze5 hne (by omega) t] at hn
        rw [hbuf]
        refine Ev.bind hn (Ev.cond (by omega) (Ev.cond (by rw [zbr]; omega) ?_))
        rw [Int.toNat_natCast, zfy w ht, w64 (by omega) (by omega)]
        exact hk
      | succ d ih =>
        intro i buf hi hbl hb hk
        refine Ev.step (fun n => by rw [word_Decode.l2]) ?_
        refine Ev.cond (by omega) (Ev.cond (by omega) (Ev.cond (by omega) ?_))
        have hgi := hg i (by omega)
        refine Ev.ret (zff (zf2 hA (by omega)) hgi.1 (by omega)) ?_
        refine Ev.cond (by omega) ?_
        rw [Int.toNat_natCast, w64 (by omega) (by omega)]
        refine ih (i + 1) _ (by omega) (by rw [List.length_set]; exact hbl) (fun j hj => ?_) hk
        rw [rd_set buf i j _ (by omega)]
        by_cases e : i = j
        · subst e; rw [if_pos rfl]
        · rw [if_neg e]; exact hb j (by omega)
    have l1 : ∀ (d t : Nat) (buf : List Int), t + d = m → buf.length = w.length → Ev (fun n => word_Decode.l1 n w (tset w m t) buf (m : Int) (t : Int)) (tup w m, 0) := by
      intro d
      induction d with
      | zero =>
        intro t buf ht hbl
        refine Ev.step (fun n => by rw [word_Decode.l1]) (Ev.ncond (by omega) (Ev.fin ?_))
        obtain rfl : t = m := by omega
        rw [zel]
      | succ d ih =>
        intro t buf ht hbl
        refine Ev.step (fun n => by rw [word_Decode.l1]) (Ev.cond (by omega) ?_)
        exact l2 t (by omega) w.length 0 buf (by omega) hbl (fun j hj => absurd hj (Nat.not_lt_zero _)) (ih (t + 1) (trk w t) (by omega) (zal w t))
    have l0 : ∀ (d i : Nat), i + d = w.length → Ev (fun n => word_Decode.l0 n w (m : Int) w (w.length : Int) (i : Int)) (tup w m, 0) := by
      intro d
      induction d with
      | zero =>
        intro i hi
        refine Ev.step (fun n => by rw [word_Decode.l0]) ?_
        refine Ev.ncond (by omega) (Ev.cond (by omega) (Ev.cond (by omega) (Ev.ret rfl (Ev.cond (by omega) (Ev.cond (by omega) ?_)))))
        rw [Int.toNat_natCast, ← zek w m, zbr]
        exact l1 m 0 _ (by omega) (by simp)
      | succ d ih =>
        intro i hi
        have hgi := hg i (by omega)
        refine Ev.step (fun n => by rw [word_Decode.l0]) ?_
        refine Ev.cond (by omega) (Ev.cond (by omega) (Ev.cond (by omega) (Ev.ncond (by omega) (Ev.cond (by omega) ?_))))
        rw [es]
        refine Ev.ncond (by omega) ?_
        rw [w64 (by omega) (by omega)]
        exact ih (i + 1) (by omega)
    exact l0 w.length 0 (by omega)
  · have hL : ¬ zap w m := fun h => hz2 (zep h hz)
    rw [if_neg hL]
    have l0 : ∀ (d i : Nat), i + d = z → Ev (fun n => word_Decode.l0 n w (m : Int) w (w.length : Int) (i : Int)) (([] : List Int), 30) := by
      intro d
      induction d with
      | zero =>
        intro i hi
        obtain rfl : i = z := by omega
        refine Ev.step (fun n => by rw [word_Decode.l0]) ?_
        refine Ev.cond (by omega) (Ev.cond (by omega) (Ev.cond (by omega) ?_))
        refine Ev.ite (fun _ => Ev.now _) (fun hn => Ev.cond (by omega) ?_)
        rw [es]
        refine Ev.cond ?_ (Ev.now _)
        have : ¬ (rd w (i : Int) < ((2 ^ m : Nat) : Int)) := fun h => hz2 ⟨by omega, h⟩
        omega
      | succ d ih =>
        intro i hi
        have hgi := hz1 i (by omega)
        refine Ev.step (fun n => by rw [word_Decode.l0]) ?_
        refine Ev.cond (by omega) (Ev.cond (by omega) (Ev.cond (by omega) (Ev.ncond (by omega) (Ev.cond (by omega) ?_))))
        rw [es]
        refine Ev.ncond (by omega) ?_
        rw [w64 (by omega) (by omega)]
        exact ih (i + 1) (by omega)
    exact l0 z 0 (by omega)
end Go.Proofs.Ythgoonohpfoagaa.Pure
namespace Go.Proofs.Ythgoonohpfoagaa.Pure
open Go.RowKit Go.Proofs.YthgoonohpfoagaaW.PrintWords Go.Proofs.YthgoonohpfoagaaW.PrintLast Go.Proofs.YthgoonohpfoagaaW.PrintMore Go.Proofs.Ythgoonohpfoagaa.X
set_option linter.unusedVariables false
def mag : List Int → Int
  | [] => 0
  | d :: l => d + 4294967296 * mag l
def DG (l : List Int) : Prop := ∀ d ∈ l, 0 ≤ d ∧ d < 4294967296
def NZ (l : List Int) : Prop := ∀ d, l.getLast? = some d → d ≠ 0
theorem DG.tail {d : Int} {l : List Int} (h : DG (d :: l)) : DG l := fun x hx => h x (List.mem_cons_of_mem _ hx)
theorem DG.head {d : Int} {l : List Int} (h : DG (d :: l)) : 0 ≤ d ∧ d < 4294967296 := h d List.mem_cons_self
theorem zbb : ∀ {l : List Int}, DG l → 0 ≤ mag l
  | [], _ => Int.le_refl _
  | d :: l, h => by have := zbb h.tail; have := h.head; simp only [mag]; omega
theorem za5 : ∀ (l m : List Int), mag (l ++ m) = mag l + (4294967296 : Int) ^ l.length * mag m
  | [], m => by simp [mag]
  | d :: l, m => by
    rw [List.cons_append, mag, mag, za5 l m, List.length_cons, Int.pow_succ]
    grind
theorem za3 : ∀ (l : List Int) (i : Nat) (x : Int), i < l.length → mag (l.set i x) = mag l + (x - l.getD i 0) * (4294967296 : Int) ^ i
  | [], i, x, h => by simp at h
  | d :: l, 0, x, h => by simp only [List.set_cons_zero, mag, List.getD_cons_zero, Int.pow_zero]; omega
  | d :: l, i + 1, x, h => by
    rw [List.set_cons_succ, mag, mag, za3 l i x (by simpa using h), List.getD_cons_succ, Int.pow_succ]
    grind
theorem zck : ∀ n : Nat, mag (List.replicate n 0) = 0
  | 0 => rfl
  | n + 1 => by rw [List.replicate_succ, mag, zck n]; rfl
theorem zaq (n : Nat) : 0 < (4294967296 : Int) ^ n := Int.pow_pos (by decide)
theorem zbj : ∀ {l : List Int}, DG l → mag l < (4294967296 : Int) ^ l.length
  | [], _ => by decide
  | d :: l, h => by
    have := zbj h.tail; have := h.head
    rw [List.length_cons, Int.pow_succ, mag]
    omega
theorem zcr : ∀ {l : List Int}, DG l → NZ l → l ≠ [] → (4294967296 : Int) ^ (l.length - 1) ≤ mag l
  | [], _, _, h => absurd rfl h
  | [d], h, n, _ => by
    have := n d rfl; have := h.head
    simp only [mag, List.length_singleton, Nat.sub_self, Int.pow_zero]; omega
  | d :: e :: l, h, n, _ => by
    have n' : NZ (e :: l) := fun x hx => n x (by rw [List.getLast?_cons_cons]; exact hx)
    have := zcr h.tail n' (by simp); have := h.head
    rw [show (d :: e :: l).length - 1 = ((e :: l).length - 1) + 1 by simp, Int.pow_succ, mag]
    omega
theorem DG.rd {l : List Int} (h : DG l) (i : Nat) : 0 ≤ l.getD i 0 ∧ l.getD i 0 < 4294967296 := by
  by_cases c : i < l.length
  · exact h _ (zah 0 l i c)
  · rw [List.getD_eq_getElem?_getD, List.getElem?_eq_none (by omega)]; decide
theorem DG.set {l : List Int} (h : DG l) (i : Nat) {x : Int} (h0 : 0 ≤ x) (h1 : x < 4294967296) : DG (l.set i x) := fun d hd => by
  rcases List.mem_or_eq_of_mem_set hd with hd | rfl
  · exact h d hd
  · exact ⟨h0, h1⟩
theorem rd_D (l : List Int) (i : Nat) : rd l (i : Int) = l.getD i 0 := zab l i
structure Wh (b : Bool) (l : List Int) (x : Int) (m : Nat) : Prop where
  dg : DG l
  nz : NZ l
  ln : l.length ≤ m
  eq : x = if b = true then -(mag l) else mag l
  zr : l = [] → b = false
theorem zai (b : Bool) {l : List Int} (h : DG l) (hl : l.length ≤ 1000) : ∃ b' l', Ev (fun k => truth_made.f k b l) (b', l') ∧ Wh b' l' (if b = true then -(mag l) else mag l) l.length := by
  have key : ∀ n, n ≤ l.length → mag (l.take n) = mag l → ∃ b' l', Ev (fun k => truth_made.l0 k b l (n : Int)) (b', l') ∧ Wh b' l' (if b = true then -(mag l) else mag l) l.length := by
    intro n
    induction n with
    | zero =>
      intro hn he
      refine ⟨false, [], Ev.step (fun k => by rw [truth_made.l0]) (Ev.ncond (by omega) ?_), ⟨fun d hd => absurd hd (by simp), fun d hd => absurd hd (by simp), by simp, ?_, fun _ => rfl⟩⟩
      · cases b with
        | true => exact Ev.cond rfl (Ev.cond (by omega) (Ev.cond (by omega) (Ev.fin (by simp))))
        | false => exact Ev.ncond (by decide) (Ev.cond (by omega) (Ev.cond (by omega) (Ev.fin (by simp))))
      · rw [← he]; simp [mag]
    | succ n ih =>
      intro hn he
      have nl : n < l.length := by omega
      have e1 : wrap64 (((n + 1 : Nat) : Int) - 1) = (n : Int) := by rw [w64 (by omega) (by omega)]; omega
      have tk : l.take (n + 1) = l.take n ++ [l[n]] := List.take_succ_eq_append_getElem nl
      have rn : rd l (n : Int) = l[n] := by rw [rd_D, List.getD_eq_getElem?_getD, List.getElem?_eq_getElem nl]; rfl
      by_cases c : l[n] = 0
      · have he' : mag (l.take n) = mag l := by rw [tk, za5, c] at he; simpa [mag] using he
        obtain ⟨b', l', h1, h2⟩ := ih (by omega) he'
        refine ⟨b', l', Ev.step (fun k => by rw [truth_made.l0]) (Ev.cond (by omega) ?_), h2⟩
        rw [e1, rn]
        exact Ev.cond (by omega) (Ev.cond (by omega) (Ev.cond c h1))
      · have last : (l.take (n + 1)).getLast? = some l[n] := by rw [tk, List.getLast?_append]; rfl
        refine ⟨b, l.take (n + 1), Ev.step (fun k => by rw [truth_made.l0]) (Ev.cond (by omega) ?_), ⟨fun d hd => h d (List.mem_of_mem_take hd), fun d hd => ?_, by rw [List.length_take]; omega, by rw [he], fun h0 => ?_⟩⟩
        · rw [e1, rn]
          refine Ev.cond (by omega) (Ev.cond (by omega) (Ev.ncond c ?_))
          cases b with
          | true => exact Ev.cond rfl (Ev.cond (by omega) (Ev.cond (by omega) (Ev.fin (by simp))))
          | false => exact Ev.ncond (by decide) (Ev.cond (by omega) (Ev.cond (by omega) (Ev.fin (by simp))))
        · rw [last] at hd; exact Option.some.inj hd ▸ c
        · rw [h0] at last; cases last
  obtain ⟨b', l', h1, h2⟩ := key l.length (Nat.le_refl _) (by rw [List.take_length])
  exact ⟨b', l', Ev.congr (fun k => by rw [truth_made.f]) h1, h2⟩
theorem Wh.more {b : Bool} {l : List Int} {x : Int} {m n : Nat} (h : Wh b l x m) (hn : m ≤ n) : Wh b l x n := ⟨h.dg, h.nz, Nat.le_trans h.ln hn, h.eq, h.zr⟩
theorem zd2 {v : Int} (h : R64 v) : ∃ b l, Ev (fun k => truth_of.f k v) (b, l) ∧ Wh b l v 2 := by
  obtain ⟨h0, h1⟩ := h
  by_cases c : v < 0
  · have e1 : IntKind.u64.wrap (-(IntKind.u64.wrap v)) = -v := by rw [zb5, zb5]; omega
    obtain ⟨b, l, h2, h3⟩ := zai true (l := [(-v) % 4294967296, ((-v) / 4294967296) % 4294967296]) (by intro d hd; simp at hd; omega) (by simp)
    refine ⟨b, l, Ev.congr (fun k => by rw [truth_of.f]) (Ev.cond c ?_), ?_⟩
    · rw [e1]; exact Ev.bind h2 (Ev.fin rfl)
    · have : (if true = true then -(mag [(-v) % 4294967296, ((-v) / 4294967296) % 4294967296]) else mag [(-v) % 4294967296, ((-v) / 4294967296) % 4294967296]) = v := by
        rw [if_pos rfl]; simp only [mag]; omega
      rw [this] at h3; exact h3
  · have e1 : IntKind.u64.wrap v = v := by rw [zb5]; omega
    obtain ⟨b, l, h2, h3⟩ := zai false (l := [v % 4294967296, (v / 4294967296) % 4294967296]) (by intro d hd; simp at hd; omega) (by simp)
    refine ⟨b, l, Ev.congr (fun k => by rw [truth_of.f]) (Ev.ncond c ?_), ?_⟩
    · rw [e1]; exact Ev.bind h2 (Ev.fin rfl)
    · have : (if false = true then -(mag [v % 4294967296, (v / 4294967296) % 4294967296]) else mag [v % 4294967296, (v / 4294967296) % 4294967296]) = v := by
        rw [if_neg (by decide)]; simp only [mag]; omega
      rw [this] at h3; exact h3
theorem zfk {b : Bool} {l : List Int} {x : Int} {m : Nat} (h : Wh b l x m) (hm : m ≤ 1000) : ∃ b' l', Ev (fun k => truth_whole_minus.f k b l) (b', l') ∧ Wh b' l' (-x) m := by
  obtain ⟨b', l', h1, h2⟩ := zai (!b) h.dg (Nat.le_trans h.ln hm)
  refine ⟨b', l', Ev.congr (fun k => by rw [truth_whole_minus.f]) (Ev.bind h1 (Ev.fin rfl)), ?_⟩
  have e : (if (!b) = true then -(mag l) else mag l) = -x := by rw [h.eq]; cases b <;> simp
  rw [e] at h2
  exact h2.more h.ln
theorem zgr {b : Bool} {l : List Int} {x : Int} {m : Nat} (h : Wh b l x m) : truth_whole_sign.f b l = some (if x = 0 then 0 else if x < 0 then -1 else 1) ∧ (x = 0 ↔ l = []) := by
  have pos : l ≠ [] → 0 < mag l := fun c => Int.lt_of_lt_of_le (zaq _) (zcr h.dg h.nz c)
  have iff : x = 0 ↔ l = [] := by
    constructor
    · intro hx
      by_cases c : l = []
      · exact c
      · have := pos c
        have e := h.eq
        cases b <;> simp at e <;> omega
    · intro hl
      rw [h.eq, hl]; simp [mag]
  refine ⟨?_, iff⟩
  unfold truth_whole_sign.f
  by_cases c : l = []
  · rw [if_pos (by rw [c]; rfl), if_pos (iff.2 c)]
  · have lp : l.length ≠ 0 := fun e => c (List.eq_nil_of_length_eq_zero e)
    rw [if_neg (by omega), if_neg (fun e => c (iff.1 e))]
    have := pos c
    have e := h.eq
    cases b with
    | true => rw [if_pos rfl] at e ⊢; rw [if_pos (by omega)]
    | false => rw [if_neg (by decide)] at e ⊢; rw [if_neg (by omega)]
end Go.Proofs.Ythgoonohpfoagaa.Pure
namespace Go.Proofs.Ythgoonohpfoagaa.Pure
open Go.RowKit Go.Proofs.YthgoonohpfoagaaW.PrintWords Go.Proofs.YthgoonohpfoagaaW.PrintLast Go.Proofs.YthgoonohpfoagaaW.PrintMore Go.Proofs.Ythgoonohpfoagaa.X
set_option linter.unusedVariables false
theorem zac (l : List Int) (i : Nat) : mag (l.take (i + 1)) = mag (l.take i) + l.getD i 0 * (4294967296 : Int) ^ i := by
  by_cases c : i < l.length
  · rw [List.take_succ_eq_append_getElem c, za5, List.length_take, Nat.min_eq_left (Nat.le_of_lt c), List.getD_eq_getElem?_getD, List.getElem?_eq_getElem c]
    simp only [mag, Option.getD_some]; grind
  · rw [List.take_of_length_le (by omega), List.take_of_length_le (by omega), List.getD_eq_getElem?_getD, List.getElem?_eq_none (by omega)]
    simp
theorem zaj (l : List Int) (i : Nat) (h : i ≤ l.length) : mag l = mag (l.take i) + (4294967296 : Int) ^ i * mag (l.drop i) := by
  have := za5 (l.take i) (l.drop i)
  rw [List.take_append_drop, List.length_take, Nat.min_eq_left h] at this
  exact this
theorem zdu {m n : Nat} (h : m ≤ n) : (4294967296 : Int) ^ m ≤ (4294967296 : Int) ^ n := by
  obtain ⟨d, rfl⟩ := Nat.le.dest h
  rw [Int.pow_add]
  have h1 := zaq m
  have h2 := zaq d
  have := Int.mul_le_mul_of_nonneg_left (show (1 : Int) ≤ (4294967296 : Int) ^ d by omega) (show (0 : Int) ≤ (4294967296 : Int) ^ m by omega)
  omega
theorem DG.take {l : List Int} (h : DG l) (i : Nat) : DG (l.take i) := fun d hd => h d (List.mem_of_mem_take hd)
theorem zbq {l : List Int} (h : DG l) (i : Nat) : mag (l.take i) < (4294967296 : Int) ^ i := by
  by_cases c : i ≤ l.length
  · have := zbj (h.take i); rw [List.length_take, Nat.min_eq_left c] at this; exact this
  · rw [List.take_of_length_le (by omega)]
    have h1 := zbj h
    have : (4294967296 : Int) ^ l.length ≤ (4294967296 : Int) ^ i := zdu (by omega)
    omega
theorem zgi {a b : List Int} (ha : DG a) (hb : DG b) (na : NZ a) (nb : NZ b) (la : a.length ≤ 1000) (lb : b.length ≤ 1000) : ∃ s, Ev (fun k => truth_size.f k a b) s ∧ (s < 0 ↔ mag a < mag b) ∧ (0 ≤ s → b.length ≤ a.length) ∧ (s < 0 → a.length ≤ b.length) := by
  by_cases e : a.length = b.length
  · have key : ∀ n, n ≤ a.length → (4294967296 : Int) ^ n * mag (a.drop n) = (4294967296 : Int) ^ n * mag (b.drop n) → ∃ s, Ev (fun k => truth_size.l0 k a b ((n : Int) - 1)) s ∧ (s < 0 ↔ mag a < mag b) := by
      intro n
      induction n with
      | zero =>
        intro _ he
        refine ⟨0, Ev.step (fun k => by rw [truth_size.l0]) (Ev.ncond (by omega) (Ev.fin rfl)), ?_⟩
        simp only [Int.pow_zero, List.drop_zero, Int.one_mul] at he
        omega
      | succ n ih =>
        intro hn he
        have e1 : ((n + 1 : Nat) : Int) - 1 = (n : Int) := by omega
        rw [e1]
        have da := ha.rd n; have db := hb.rd n
        by_cases c : a.getD n 0 = b.getD n 0
        · have s1 := zaj a (n + 1) hn; have s2 := zaj b (n + 1) (by omega)
          have s3 := zaj a n (by omega); have s4 := zaj b n (by omega)
          have t1 := zac a n; have t2 := zac b n
          rw [c] at t1
          obtain ⟨s, h1, h2⟩ := ih (by omega) (by omega)
          refine ⟨s, Ev.step (fun k => by rw [truth_size.l0]) (Ev.cond (by omega) (Ev.cond (by omega) (Ev.cond (by omega) (Ev.cond (by omega) (Ev.cond (by rw [rd_D, rd_D]; exact c) ?_))))), h2⟩
          rw [w64 (by omega) (by omega)]
          exact h1
        · refine ⟨a.getD n 0 - b.getD n 0, Ev.step (fun k => by rw [truth_size.l0]) (Ev.cond (by omega) (Ev.cond (by omega) (Ev.cond (by omega) (Ev.cond (by omega) (Ev.ncond (by rw [rd_D, rd_D]; exact c) (Ev.fin ?_)))))), ?_⟩
          · rw [rd_D, rd_D, w64 (x := a.getD n 0) (by omega) (by omega), w64 (x := b.getD n 0) (by omega) (by omega), w64 (by omega) (by omega)]
          · have s1 := zaj a (n + 1) hn; have s2 := zaj b (n + 1) (by omega)
            have t1 := zac a n; have t2 := zac b n
            have u1 := zbq ha n; have u2 := zbq hb n
            have v1 := zbb (ha.take n); have v2 := zbb (hb.take n)
            have P := zaq n
            generalize (4294967296 : Int) ^ n = B at *
            generalize a.getD n 0 = x at *
            generalize b.getD n 0 = y at *
            constructor
            · intro h
              have h' : (x + 1) * B ≤ y * B := Int.mul_le_mul_of_nonneg_right (by omega) (by omega)
              rw [Int.add_mul, Int.one_mul] at h'
              omega
            · intro h
              rcases Int.lt_or_gt_of_ne c with g | g
              · omega
              · have h' : (y + 1) * B ≤ x * B := Int.mul_le_mul_of_nonneg_right (by omega) (by omega)
                rw [Int.add_mul, Int.one_mul] at h'
                omega
    obtain ⟨s, h1, h2⟩ := key a.length (Nat.le_refl _) (by rw [List.drop_of_length_le (Nat.le_refl _), List.drop_of_length_le (by omega)])
    refine ⟨s, Ev.congr (fun k => by rw [truth_size.f]) (Ev.cond (by omega) ?_), h2, fun _ => by omega, fun _ => by omega⟩
    rw [w64 (by omega) (by omega)]
    exact h1
  · refine ⟨(a.length : Int) - (b.length : Int), Ev.congr (fun k => by rw [truth_size.f]) (Ev.ncond (by omega) (Ev.fin (w64 (by omega) (by omega)))), ?_, fun h => by omega, fun h => by omega⟩
    have key : ∀ {a b : List Int}, DG a → DG b → NZ b → a.length < b.length → mag a < mag b := by
      intro a b ha hb nb h
      have h1 := zbj ha
      have h2 := zcr hb nb (by intro e; rw [e] at h; simp at h)
      have : (4294967296 : Int) ^ a.length ≤ (4294967296 : Int) ^ (b.length - 1) := zdu (by omega)
      omega
    constructor
    · intro h; exact key ha hb nb (by omega)
    · intro h
      rcases Nat.lt_or_gt_of_ne e with g | g
      · omega
      · have := key hb ha na g; omega
theorem zcm {l : List Int} (h : l.length ≤ 1000) : slices_Clone_uint32_uint32.f l = some l := by unfold slices_Clone_uint32_uint32.f; exact if_pos (by omega)
theorem zcn {a b : List Int} (ha : DG a) (hb : DG b) (hl : b.length ≤ a.length) (la : a.length ≤ 1000) : ∃ l, Ev (fun k => truth_added.f k a b) l ∧ DG l ∧ mag l = mag a + mag b ∧ l.length = a.length + 1 := by
  have key : ∀ (m i : Nat) (o : List Int) (c : Int), i + m = a.length → o.length = a.length → DG o → 0 ≤ c → c ≤ 1 → mag o + c * (4294967296 : Int) ^ i = mag a + mag (b.take i) →
      ∃ l, Ev (fun k => truth_added.l0 k b o c (a.length : Int) (i : Int)) l ∧ DG l ∧ mag l = mag a + mag b ∧ l.length = a.length + 1 := by
    intro m
    induction m with
    | zero =>
      intro i o c hi ho hd c0 c1 he
      refine ⟨o ++ [c % 4294967296], Ev.step (fun k => by rw [truth_added.l0]) (Ev.ncond (by omega) (Ev.cond (by omega) (Ev.fin rfl))), fun d hd' => ?_, ?_, by simp [ho]⟩
      · rcases List.mem_append.1 hd' with h | h
        · exact hd d h
        · rw [List.mem_singleton.1 h]; omega
      · rw [za5, ho, show a.length = i by omega, ← List.take_of_length_le (l := b) (i := i) (by omega), ← he]
        simp only [mag]
        rw [show c % 4294967296 = c by omega]; grind
    | succ m ih =>
      intro i o c hi ho hd c0 c1 he
      have ii : i < a.length := by omega
      have dO := hd.rd i; have dB := hb.rd i
      have t := zac b i
      have step : ∀ s : Int, s = o.getD i 0 + c + b.getD i 0 → ∃ l, Ev (fun k => truth_added.l0 k b (o.set i (s % 4294967296)) (s / 4294967296) (a.length : Int) ((i + 1 : Nat) : Int)) l ∧ DG l ∧ mag l = mag a + mag b ∧ l.length = a.length + 1 := by
        intro s hs
        refine ih (i + 1) _ _ (by omega) (by rw [List.length_set]; exact ho) (hd.set i (by omega) (by omega)) (by omega) (by omega) ?_
        rw [za3 o i _ (by omega), t, Int.pow_succ]
        have q : s % 4294967296 = s - 4294967296 * (s / 4294967296) := by omega
        rw [q]
        generalize s / 4294967296 = z at *
        grind
      have e1 : IntKind.u64.wrap (o.getD i 0) = o.getD i 0 := u64 (by omega) (by omega)
      have e2 : IntKind.u64.wrap (o.getD i 0 + c) = o.getD i 0 + c := u64 (by omega) (by omega)
      by_cases cb : i < b.length
      · obtain ⟨l, h1, h2⟩ := step _ rfl
        refine ⟨l, Ev.step (fun k => by rw [truth_added.l0]) (Ev.cond (by omega) (Ev.cond (by omega) (Ev.cond (by omega) (Ev.cond (by omega) ?_)))), h2⟩
        rw [rd_D, rd_D, e1, e2, u64 (x := b.getD i 0) (by omega) (by omega), u64 (by omega) (by omega), w64 (by omega) (by omega), Int.toNat_natCast]
        exact h1
      · have z : b.getD i 0 = 0 := by rw [List.getD_eq_getElem?_getD, List.getElem?_eq_none (by omega)]; rfl
        obtain ⟨l, h1, h2⟩ := step (o.getD i 0 + c) (by omega)
        refine ⟨l, Ev.step (fun k => by rw [truth_added.l0]) (Ev.cond (by omega) (Ev.cond (by omega) (Ev.cond (by omega) (Ev.ncond (by omega) ?_)))), h2⟩
        rw [rd_D, e1, e2, w64 (by omega) (by omega), Int.toNat_natCast]
        exact h1
  obtain ⟨l, h1, h2⟩ := key a.length 0 a 0 (by omega) rfl ha (by omega) (by omega) (by simp [mag])
  exact ⟨l, Ev.congr (fun k => by rw [truth_added.f]) (Ev.ret (zcm la) h1), h2⟩
theorem zcw {a b : List Int} (ha : DG a) (hb : DG b) (hl : b.length ≤ a.length) (la : a.length ≤ 1000) (hm : mag b ≤ mag a) : ∃ l, Ev (fun k => truth_taken.f k a b) l ∧ DG l ∧ mag l = mag a - mag b ∧ l.length = a.length := by
  have key : ∀ (m i : Nat) (o : List Int) (c : Int), i + m = a.length → o.length = a.length → DG o → 0 ≤ c → c ≤ 1 → mag o - c * (4294967296 : Int) ^ i = mag a - mag (b.take i) →
      ∃ l, Ev (fun k => truth_taken.l0 k b o c (a.length : Int) (i : Int)) l ∧ DG l ∧ mag l = mag a - mag b ∧ l.length = a.length := by
    intro m
    induction m with
    | zero =>
      intro i o c hi ho hd c0 c1 he
      refine ⟨o, Ev.step (fun k => by rw [truth_taken.l0]) (Ev.ncond (by omega) (Ev.fin rfl)), hd, ?_, ho⟩
      rw [List.take_of_length_le (l := b) (i := i) (by omega)] at he
      have u := zbj hd
      rw [ho, show a.length = i by omega] at u
      have P := zaq i
      generalize (4294967296 : Int) ^ i = B at *
      rcases (by omega : c = 0 ∨ c = 1) with rfl | rfl
      · omega
      · omega
    | succ m ih =>
      intro i o c hi ho hd c0 c1 he
      have ii : i < a.length := by omega
      have dO := hd.rd i; have dB := hb.rd i
      have t := zac b i
      have step : ∀ s x c' : Int, s = o.getD i 0 - c - b.getD i 0 → x = s + c' * 4294967296 → 0 ≤ x → x < 4294967296 → 0 ≤ c' → c' ≤ 1 → ∃ l, Ev (fun k => truth_taken.l0 k b (o.set i x) c' (a.length : Int) ((i + 1 : Nat) : Int)) l ∧ DG l ∧ mag l = mag a - mag b ∧ l.length = a.length := by
        intro s x c' hs hx x0 x1 y0 y1
        refine ih (i + 1) _ _ (by omega) (by rw [List.length_set]; exact ho) (hd.set i x0 x1) y0 y1 ?_
        rw [za3 o i _ (by omega), t, Int.pow_succ, hx, hs]
        grind
      have e1 : wrap64 (o.getD i 0) = o.getD i 0 := w64 (by omega) (by omega)
      have e2 : wrap64 (o.getD i 0 - c) = o.getD i 0 - c := w64 (by omega) (by omega)
      by_cases cb : i < b.length
      · have e3 : wrap64 (b.getD i 0) = b.getD i 0 := w64 (by omega) (by omega)
        have e4 : wrap64 (o.getD i 0 - c - b.getD i 0) = o.getD i 0 - c - b.getD i 0 := w64 (by omega) (by omega)
        by_cases ng : o.getD i 0 - c - b.getD i 0 < 0
        · obtain ⟨l, h1, h2⟩ := step _ _ 1 rfl rfl (by omega) (by omega) (by omega) (by omega)
          refine ⟨l, Ev.step (fun k => by rw [truth_taken.l0]) (Ev.cond (by omega) (Ev.cond (by omega) (Ev.cond (by omega) (Ev.cond (by omega) ?_)))), h2⟩
          rw [rd_D, rd_D, e1, e2, e3, e4, w64 (by omega) (by omega), w64 (by omega) (by omega), Int.toNat_natCast]
          refine Ev.cond ng ?_
          rw [show (o.getD i 0 - c - b.getD i 0 + 4294967296) % 4294967296 = o.getD i 0 - c - b.getD i 0 + 1 * 4294967296 by omega]
          exact h1
        · obtain ⟨l, h1, h2⟩ := step _ _ 0 rfl rfl (by omega) (by omega) (by omega) (by omega)
          refine ⟨l, Ev.step (fun k => by rw [truth_taken.l0]) (Ev.cond (by omega) (Ev.cond (by omega) (Ev.cond (by omega) (Ev.cond (by omega) ?_)))), h2⟩
          rw [rd_D, rd_D, e1, e2, e3, e4, w64 (x := ((i : Int) + 1)) (by omega) (by omega), Int.toNat_natCast]
          refine Ev.ncond ng ?_
          rw [show (o.getD i 0 - c - b.getD i 0) % 4294967296 = o.getD i 0 - c - b.getD i 0 + 0 * 4294967296 by omega]
          exact h1
      · have z : b.getD i 0 = 0 := by rw [List.getD_eq_getElem?_getD, List.getElem?_eq_none (by omega)]; rfl
        by_cases ng : o.getD i 0 - c < 0
        · obtain ⟨l, h1, h2⟩ := step (o.getD i 0 - c) _ 1 (by omega) rfl (by omega) (by omega) (by omega) (by omega)
          refine ⟨l, Ev.step (fun k => by rw [truth_taken.l0]) (Ev.cond (by omega) (Ev.cond (by omega) (Ev.cond (by omega) (Ev.ncond (by omega) ?_)))), h2⟩
          rw [rd_D, e1, e2, w64 (by omega) (by omega), w64 (by omega) (by omega), Int.toNat_natCast]
          refine Ev.cond ng ?_
          rw [show (o.getD i 0 - c + 4294967296) % 4294967296 = o.getD i 0 - c + 1 * 4294967296 by omega]
          exact h1
        · obtain ⟨l, h1, h2⟩ := step (o.getD i 0 - c) _ 0 (by omega) rfl (by omega) (by omega) (by omega) (by omega)
          refine ⟨l, Ev.step (fun k => by rw [truth_taken.l0]) (Ev.cond (by omega) (Ev.cond (by omega) (Ev.cond (by omega) (Ev.ncond (by omega) ?_)))), h2⟩
          rw [rd_D, e1, e2, w64 (x := ((i : Int) + 1)) (by omega) (by omega), Int.toNat_natCast]
          refine Ev.ncond ng ?_
          rw [show (o.getD i 0 - c) % 4294967296 = o.getD i 0 - c + 0 * 4294967296 by omega]
          exact h1
  obtain ⟨l, h1, h2⟩ := key a.length 0 a 0 (by omega) rfl ha (by omega) (by omega) (by simp [mag])
  exact ⟨l, Ev.congr (fun k => by rw [truth_taken.f]) (Ev.ret (zcm la) h1), h2⟩
end Go.Proofs.Ythgoonohpfoagaa.Pure
namespace Go.Proofs.Ythgoonohpfoagaa.Pure
open Go.RowKit Go.Proofs.YthgoonohpfoagaaW.PrintWords Go.Proofs.YthgoonohpfoagaaW.PrintLast Go.Proofs.YthgoonohpfoagaaW.PrintMore Go.Proofs.Ythgoonohpfoagaa.X
set_option linter.unusedVariables false
theorem zgk {b c : Bool} {l r : List Int} {x y : Int} {m : Nat} (h : Wh b l x m) (g : Wh c r y m) (hm : m ≤ 900) :
    ∃ b' l', Ev (fun k => truth_whole_plus.f k b l c r) (b', l') ∧ Wh b' l' (x + y) (m + 1) := by
  have h1 := h.ln; have g1 := g.ln
  obtain ⟨s, es, s1, s2, s3⟩ := zgi h.dg g.dg h.nz g.nz (by omega) (by omega)
  have hx := h.eq; have hy := g.eq
  by_cases ng : s < 0
  · have lt := s1.1 ng; have ll := s3 ng
    have q0 : (c == b) = decide (c = b) := by cases b <;> cases c <;> rfl
    by_cases e : c = b
    · obtain ⟨o, o1, o2, o3, o4⟩ := zcn g.dg h.dg ll (by omega)
      obtain ⟨b', l', p1, p2⟩ := zai c o2 (by omega)
      refine ⟨b', l', Ev.congr (fun k => by rw [truth_whole_plus.f]) (Ev.bind es (Ev.cond ng (Ev.cond (show (c == b) = true by rw [q0]; exact decide_eq_true e) (Ev.bind o1 (Ev.bind p1 (Ev.fin rfl)))))), ?_⟩
      have q : (if c = true then -(mag o) else mag o) = x + y := by rw [hx, hy, o3, e]; cases b <;> simp <;> omega
      rw [q] at p2
      exact p2.more (by omega)
    · obtain ⟨o, o1, o2, o3, o4⟩ := zcw g.dg h.dg ll (by omega) (by omega)
      obtain ⟨b', l', p1, p2⟩ := zai c o2 (by omega)
      refine ⟨b', l', Ev.congr (fun k => by rw [truth_whole_plus.f]) (Ev.bind es (Ev.cond ng (Ev.ncond (show ¬ (c == b) = true by rw [q0]; simpa using e) (Ev.bind o1 (Ev.bind p1 (Ev.fin rfl)))))), ?_⟩
      have q : (if c = true then -(mag o) else mag o) = x + y := by rw [hx, hy, o3]; cases b <;> cases c <;> simp at e ⊢ <;> omega
      rw [q] at p2
      exact p2.more (by omega)
  · have ge : mag r ≤ mag l := by have := fun z => ng (s1.2 z); omega
    have ll := s2 (by omega)
    have q0 : (b == c) = decide (b = c) := by cases b <;> cases c <;> rfl
    by_cases e : b = c
    · obtain ⟨o, o1, o2, o3, o4⟩ := zcn h.dg g.dg ll (by omega)
      obtain ⟨b', l', p1, p2⟩ := zai b o2 (by omega)
      refine ⟨b', l', Ev.congr (fun k => by rw [truth_whole_plus.f]) (Ev.bind es (Ev.ncond ng (Ev.cond (show (b == c) = true by rw [q0]; exact decide_eq_true e) (Ev.bind o1 (Ev.bind p1 (Ev.fin rfl)))))), ?_⟩
      have q : (if b = true then -(mag o) else mag o) = x + y := by rw [hx, hy, o3, e]; cases c <;> simp <;> omega
      rw [q] at p2
      exact p2.more (by omega)
    · obtain ⟨o, o1, o2, o3, o4⟩ := zcw h.dg g.dg ll (by omega) ge
      obtain ⟨b', l', p1, p2⟩ := zai b o2 (by omega)
      refine ⟨b', l', Ev.congr (fun k => by rw [truth_whole_plus.f]) (Ev.bind es (Ev.ncond ng (Ev.ncond (show ¬ (b == c) = true by rw [q0]; simpa using e) (Ev.bind o1 (Ev.bind p1 (Ev.fin rfl)))))), ?_⟩
      have q : (if b = true then -(mag o) else mag o) = x + y := by rw [hx, hy, o3]; cases b <;> cases c <;> simp at e ⊢ <;> omega
      rw [q] at p2
      exact p2.more (by omega)
end Go.Proofs.Ythgoonohpfoagaa.Pure
namespace Go.Proofs.Ythgoonohpfoagaa.Pure
open Go.RowKit Go.Proofs.YthgoonohpfoagaaW.PrintWords Go.Proofs.YthgoonohpfoagaaW.PrintLast Go.Proofs.YthgoonohpfoagaaW.PrintMore Go.Proofs.Ythgoonohpfoagaa.X
set_option linter.unusedVariables false
theorem alg_in {mo cy X Y K a T b og sm w : Int} (he : mo + cy * (X * Y) = K + a * T * X) (hs : sm = a * b + og + cy) : mo + (sm - 4294967296 * w - og) * (X * Y) + w * (X * Y * 4294967296) = K + a * (T + b * Y) * X := by
  subst hs; grind
theorem zf4 {mo cy Z P R a X : Int} (he : mo + cy * Z = P * R + a * R * X) : mo + (cy - 0) * Z = (P + a * X) * R := by grind
theorem alg_sg {b c : Bool} {x y A B : Int} (hx : x = if b = true then -A else A) (hy : y = if c = true then -B else B) : (if (b != c) = true then -(A * B) else A * B) = x * y := by
  subst hx; subst hy
  cases b <;> cases c <;> simp [Int.neg_mul, Int.mul_neg]
theorem zca {a b o c : Int} (a0 : 0 ≤ a) (a1 : a < 4294967296) (b0 : 0 ≤ b) (b1 : b < 4294967296) (o0 : 0 ≤ o) (o1 : o < 4294967296) (c0 : 0 ≤ c) (c1 : c < 4294967296) :
    0 ≤ a * b ∧ a * b + o + c ≤ 18446744073709551615 := by
  have h0 := Int.mul_nonneg a0 b0
  have h1 : a * b ≤ 4294967295 * 4294967295 := Int.mul_le_mul (by omega) (by omega) b0 (by decide)
  omega
theorem zeo {a b o c : Int} (a0 : 0 ≤ a) (a1 : a < 4294967296) (b0 : 0 ≤ b) (b1 : b < 4294967296) (o0 : 0 ≤ o) (o1 : o < 4294967296) (c0 : 0 ≤ c) (c1 : c < 4294967296) :
    IntKind.u64.wrap (IntKind.u64.wrap (IntKind.u64.wrap (IntKind.u64.wrap a * IntKind.u64.wrap b) + IntKind.u64.wrap o) + c) = a * b + o + c := by
  obtain ⟨m0, m1⟩ := zca a0 a1 b0 b1 o0 o1 c0 c1
  rw [u64 (x := a) a0 (by omega), u64 (x := b) b0 (by omega), u64 (x := o) o0 (by omega), u64 (x := a * b) m0 (by omega), u64 (x := a * b + o) (by omega) (by omega), u64 (by omega) (by omega)]
theorem getD_set_ne (l : List Int) {i j : Nat} (x : Int) (h : i ≠ j) : (l.set i x).getD j 0 = l.getD j 0 := by
  rw [List.getD_eq_getElem?_getD, List.getD_eq_getElem?_getD, List.getElem?_set_ne h]
theorem ze9 {b c : Bool} {l r : List Int} {x y : Int} {m n : Nat} (h : Wh b l x m) (g : Wh c r y n) (hm : m ≤ 400) (hn : n ≤ 400) :
    ∃ b' l', Ev (fun k => truth_whole_times.f k b l c r) (b', l') ∧ Wh b' l' (x * y) (m + n) := by
  have h1 := h.ln; have g1 := g.ln
  have fin : ∀ o : List Int, o.length = l.length + r.length → DG o → mag o = mag l * mag r → ∃ b' l', Ev (fun k => (truth_made.f k (b != c) o).bind fun z => some (z.1, z.2)) (b', l') ∧ Wh b' l' (x * y) (m + n) := by
    intro o ho hd he
    obtain ⟨b', l', p1, p2⟩ := zai (b != c) hd (by omega)
    refine ⟨b', l', Ev.bind p1 (Ev.fin rfl), ?_⟩
    have q : (if (b != c) = true then -(mag o) else mag o) = x * y := by
      rw [he]
      exact alg_sg h.eq g.eq
    rw [q] at p2
    exact p2.more (by omega)
  have rows : ∀ (s i : Nat) (o : List Int), i + s = l.length → o.length = l.length + r.length → DG o → (∀ j, i + r.length ≤ j → o.getD j 0 = 0) → mag o = mag (l.take i) * mag r →
      ∃ b' l', Ev (fun k => truth_whole_times.l0 k o l (l.length : Int) (i : Int) b l c r) (b', l') ∧ Wh b' l' (x * y) (m + n) := by
    intro s
    induction s with
    | zero =>
      intro i o hi ho hd hz he
      rw [List.take_of_length_le (l := l) (i := i) (by omega)] at he
      obtain ⟨b', l', p1, p2⟩ := fin o ho hd he
      exact ⟨b', l', Ev.step (fun k => by rw [truth_whole_times.l0]) (Ev.ncond (by omega) p1), p2⟩
    | succ s ih =>
      intro i o hi ho hd hz he
      have ii : i < l.length := by omega
      have dA := h.dg.rd i
      have inner : ∀ (t q : Nat) (o : List Int) (cy : Int), q + t = r.length → o.length = l.length + r.length → DG o → (∀ j, i + r.length ≤ j → o.getD j 0 = 0) → 0 ≤ cy → cy < 4294967296 →
          mag o + cy * (4294967296 : Int) ^ (i + q) = mag (l.take i) * mag r + l.getD i 0 * mag (r.take q) * (4294967296 : Int) ^ i →
          ∃ b' l', Ev (fun k => truth_whole_times.l1 k o (i : Int) (l.getD i 0) cy l (l.length : Int) (i : Int) r (r.length : Int) (q : Int) b l c r) (b', l') ∧ Wh b' l' (x * y) (m + n) := by
        intro t
        induction t with
        | zero =>
          intro q o cy hq ho hd hz c0 c1 he
          have z0 := hz (i + r.length) (Nat.le_refl _)
          rw [List.take_of_length_le (l := r) (i := q) (by omega), show q = r.length by omega] at he
          have key : mag (o.set (i + r.length) (cy % 4294967296)) = mag (l.take (i + 1)) * mag r := by
            rw [za3 o (i + r.length) (cy % 4294967296) (by clear he; omega), z0, zac, show cy % 4294967296 = cy by clear he; omega]
            exact zf4 he
          clear he
          obtain ⟨b', l', p1, p2⟩ := ih (i + 1) (o.set (i + r.length) (cy % 4294967296)) (by omega) (by rw [List.length_set]; exact ho) (hd.set _ (by omega) (by omega)) (fun j hj => by rw [getD_set_ne _ _ (by omega)]; exact hz j (by omega)) key
          refine ⟨b', l', Ev.step (fun k => by rw [truth_whole_times.l1]) (Ev.ncond (by omega) ?_), p2⟩
          rw [w64 (x := (i : Int) + (r.length : Int)) (by omega) (by omega), w64 (x := (i : Int) + 1) (by omega) (by omega), show ((i : Int) + (r.length : Int)) = ((i + r.length : Nat) : Int) by omega, Int.toNat_natCast]
          exact Ev.cond (by omega) (Ev.cond (by omega) p1)
        | succ t iht =>
          intro q o cy hq ho hd hz c0 c1 he
          have dB := g.dg.rd q
          have dO := hd.rd (i + q)
          obtain ⟨sm, hsm⟩ : ∃ sm, sm = l.getD i 0 * r.getD q 0 + o.getD (i + q) 0 + cy := ⟨_, rfl⟩
          have s01 : 0 ≤ sm ∧ sm ≤ 18446744073709551615 := by
            obtain ⟨m0, m1⟩ := zca dA.1 dA.2 dB.1 dB.2 dO.1 dO.2 c0 c1
            rw [hsm]
            exact ⟨by omega, m1⟩
          have key : mag (o.set (i + q) (sm % 4294967296)) + sm / 4294967296 * (4294967296 : Int) ^ (i + (q + 1)) = mag (l.take i) * mag r + l.getD i 0 * mag (r.take (q + 1)) * (4294967296 : Int) ^ i := by
            have z : sm % 4294967296 = sm - 4294967296 * (sm / 4294967296) := by clear he; omega
            rw [za3 o (i + q) (sm % 4294967296) (by clear he; omega), zac, show i + (q + 1) = (i + q) + 1 from rfl, Int.pow_succ, z, Int.pow_add]
            rw [Int.pow_add] at he
            exact alg_in he hsm
          have hsm' := Aside0.mk hsm
          clear he hsm
          obtain ⟨b', l', p1, p2⟩ := iht (q + 1) (o.set (i + q) (sm % 4294967296)) (sm / 4294967296) (by omega) (by rw [List.length_set]; exact ho) (hd.set _ (by omega) (by omega)) (fun j hj => by rw [getD_set_ne _ _ (by omega)]; exact hz j (by omega)) (by omega) (by omega) key
          refine ⟨b', l', Ev.step (fun k => by rw [truth_whole_times.l1]) (Ev.cond (by omega) (Ev.cond (by omega) (Ev.cond (by omega) ?_))), p2⟩
          rw [w64 (x := (i : Int) + (q : Int)) (by omega) (by omega), show ((i : Int) + (q : Int)) = ((i + q : Nat) : Int) by omega, rd_D, rd_D, zeo dA.1 dA.2 dB.1 dB.2 dO.1 dO.2 c0 c1, ← hsm'.out, w64 (x := (q : Int) + 1) (by omega) (by omega), Int.toNat_natCast]
          exact Ev.cond (by omega) (Ev.cond (by omega) p1)
      obtain ⟨b', l', p1, p2⟩ := inner r.length 0 o 0 (by omega) ho hd hz (by omega) (by omega) (by rw [he]; simp [mag])
      refine ⟨b', l', Ev.step (fun k => by rw [truth_whole_times.l0]) (Ev.cond (by omega) (Ev.cond (by omega) (Ev.cond (by omega) ?_))), p2⟩
      rw [rd_D]
      exact p1
  have e : wrap64 ((l.length : Int) + (r.length : Int)) = ((l.length + r.length : Nat) : Int) := by rw [w64 (by omega) (by omega)]; omega
  obtain ⟨b', l', p1, p2⟩ := rows l.length 0 (List.replicate (l.length + r.length) 0) (by omega) (by simp) (fun d hd => by rw [(List.mem_replicate.1 hd).2]; decide) (fun j hj => by
    rw [List.getD_eq_getElem?_getD, List.getElem?_replicate]; split <;> rfl) (by rw [zck]; simp [mag])
  refine ⟨b', l', Ev.congr (fun k => by rw [truth_whole_times.f]) ?_, p2⟩
  rw [e, Int.toNat_natCast]
  exact Ev.cond (by omega) (Ev.cond (by omega) p1)
end Go.Proofs.Ythgoonohpfoagaa.Pure
namespace Go.Proofs.Ythgoonohpfoagaa.Pure
open Go.RowKit Go.Proofs.YthgoonohpfoagaaW.PrintWords Go.Proofs.YthgoonohpfoagaaW.PrintLast Go.Proofs.YthgoonohpfoagaaW.PrintMore Go.Proofs.Ythgoonohpfoagaa.X
set_option linter.unusedVariables false
theorem zgg {d : Int} (h0 : 0 ≤ d) (h1 : d < 4294967296) {j : Nat} (hj : j ≤ 31) : Go.bits .and .u32 (shr .u32 d (j : Int)) 1 = d / 2 ^ j % 2 := by
  have e : shr .u32 d (j : Int) = d / 2 ^ j := by
    unfold shr
    rw [Int.toNat_natCast, Nat.min_eq_left (by simp [IntKind.bits]; omega)]
  rw [e]
  have hq : 0 ≤ d / 2 ^ j := Int.ediv_nonneg h0 (Int.le_of_lt (Int.pow_pos (by decide)))
  have hl : d / 2 ^ j ≤ d := Int.ediv_le_self _ h0
  have := bits_mask .u32 32 (by decide) (fun n a b => by simp [IntKind.wrap, IntKind.bits, IntKind.signed]; omega) 1 (by decide) (d / 2 ^ j) hq (by omega)
  simpa using this
theorem zdh {b : Bool} {l : List Int} {x : Int} {m : Nat} (h : Wh b l x m) (hm : m ≤ 1000) {M : Int} (M1 : 1 ≤ M) (M2 : M ≤ 9223372036854775807) :
    Ev (fun k => truth_whole_multiple.f k b l M) (decide (M ∣ x)) := by
  have hl := h.ln
  have rows : ∀ (n : Nat), n ≤ l.length → Ev (fun k => truth_whole_multiple.l0 k (mag (l.drop n) % M) M ((n : Int) - 1) b l) (decide (M ∣ x)) := by
    intro n
    induction n with
    | zero =>
      intro _
      refine Ev.step (fun k => by rw [truth_whole_multiple.l0]) (Ev.ncond (by omega) (Ev.fin ?_))
      rw [List.drop_zero]
      have : (M ∣ x) ↔ mag l % M = 0 := by
        rw [h.eq]
        cases b with
        | true => rw [if_pos rfl, Int.dvd_neg]; exact Int.dvd_iff_emod_eq_zero
        | false => rw [if_neg (by decide)]; exact Int.dvd_iff_emod_eq_zero
      rw [Bool.eq_iff_iff, decide_eq_true_iff, this]
      exact beq_iff_eq
    | succ n ih =>
      intro hn
      have dA := h.dg.rd n
      have e0 : ((n + 1 : Nat) : Int) - 1 = (n : Int) := by omega
      rw [e0]
      have inner : ∀ (j : Nat), j ≤ 32 → Ev (fun k => truth_whole_multiple.l1 k ((mag (l.drop (n + 1)) * 2 ^ (32 - j) + l.getD n 0 / 2 ^ j) % M) M (n : Int) ((j : Int) - 1) b l) (decide (M ∣ x)) := by
        intro j
        induction j with
        | zero =>
          intro _
          refine Ev.step (fun k => by rw [truth_whole_multiple.l1]) (Ev.ncond (by omega) ?_)
          rw [w64 (by omega) (by omega)]
          have z := ih (by omega)
          have e : mag (l.drop n) = mag (l.drop (n + 1)) * 2 ^ (32 - 0) + l.getD n 0 / 2 ^ 0 := by
            rw [List.drop_eq_getElem_cons (by omega : n < l.length), mag, List.getD_eq_getElem?_getD, List.getElem?_eq_getElem (by omega : n < l.length)]
            simp only [Option.getD_some, Nat.sub_zero, Int.pow_zero, Int.ediv_one]
            omega
          rw [e] at z
          exact z
        | succ j ihj =>
          intro hj
          have e1 : ((j + 1 : Nat) : Int) - 1 = (j : Int) := by omega
          rw [e1]
          have r0 := Int.emod_nonneg (mag (l.drop (n + 1)) * 2 ^ (32 - (j + 1)) + l.getD n 0 / 2 ^ (j + 1)) (show M ≠ 0 by omega)
          have r1 := Int.emod_lt_of_pos (mag (l.drop (n + 1)) * 2 ^ (32 - (j + 1)) + l.getD n 0 / 2 ^ (j + 1)) (show 0 < M by omega)
          obtain ⟨R, hR⟩ : ∃ R, R = (mag (l.drop (n + 1)) * 2 ^ (32 - (j + 1)) + l.getD n 0 / 2 ^ (j + 1)) % M := ⟨_, rfl⟩
          rw [← hR] at r0 r1 ⊢
          have bt := zgg dA.1 dA.2 (show j ≤ 31 by omega)
          obtain ⟨B, hB⟩ : ∃ B, B = l.getD n 0 / 2 ^ j % 2 := ⟨_, rfl⟩
          have B0 : 0 ≤ B ∧ B ≤ 1 := by omega
          refine Ev.step (fun k => by rw [truth_whole_multiple.l1]) (Ev.cond (by omega) (Ev.cond (by omega) (Ev.cond (by omega) (Ev.cond (by omega) (Ev.ncond (by omega) ?_)))))
          rw [rd_D, bt, ← hB, u64 (x := R * 2) (by omega) (by omega), u64 (x := B) (by omega) (by omega), u64 (by omega) (by omega), w64 (by omega) (by omega), Int.tmod_eq_emod_of_nonneg (by omega)]
          have key : (R * 2 + B) % M = (mag (l.drop (n + 1)) * 2 ^ (32 - j) + l.getD n 0 / 2 ^ j) % M := by
            have p : (2 : Int) ^ (32 - j) = 2 ^ (32 - (j + 1)) * 2 := by rw [← Int.pow_succ]; congr 1; omega
            have q : l.getD n 0 / 2 ^ (j + 1) = l.getD n 0 / 2 ^ j / 2 := by rw [Int.pow_succ, Int.ediv_ediv_of_nonneg (Int.pow_nonneg (by decide))]
            have e3 : mag (l.drop (n + 1)) * 2 ^ (32 - j) + l.getD n 0 / 2 ^ j = (mag (l.drop (n + 1)) * 2 ^ (32 - (j + 1)) + l.getD n 0 / 2 ^ (j + 1)) * 2 + B := by
              rw [p, q, hB]
              generalize l.getD n 0 / 2 ^ j = u
              rw [Int.add_mul, Int.mul_assoc]
              omega
            rw [e3, hR, Int.add_emod, Int.mul_emod, Int.emod_emod, ← Int.mul_emod, ← Int.add_emod]
          rw [key]
          exact ihj (by omega)
      refine Ev.step (fun k => by rw [truth_whole_multiple.l0]) (Ev.cond (by omega) ?_)
      have := inner 32 (Nat.le_refl _)
      have z : l.getD n 0 / 2 ^ 32 = 0 := Int.ediv_eq_zero_of_lt dA.1 (by have : (2 : Int) ^ 32 = 4294967296 := by decide
                                                                          omega)
      rw [z, Nat.sub_self, Int.pow_zero, Int.mul_one, Int.add_zero] at this
      exact this
  have := rows l.length (Nat.le_refl _)
  rw [List.drop_of_length_le (Nat.le_refl _)] at this
  refine Ev.congr (fun k => by rw [truth_whole_multiple.f]) ?_
  rw [u64 (by omega) (by omega), w64 (by omega) (by omega)]
  have z : mag [] % M = 0 := by simp [mag]
  rw [z] at this
  exact this
end Go.Proofs.Ythgoonohpfoagaa.Pure
namespace Go.Proofs.Ythgoonohpfoagaa.Pure
open Go.RowKit Go.Proofs.YthgoonohpfoagaaW.PrintWords Go.Proofs.YthgoonohpfoagaaW.PrintLast Go.Proofs.YthgoonohpfoagaaW.PrintMore Go.Proofs.Ythgoonohpfoagaa.X
set_option linter.unusedVariables false
def wsum (f : Nat → Int) : List Nat → Int
  | [] => 0
  | [a] => -(f a)
  | a :: b :: r => f a + 2 * wsum f (b :: r)
theorem zdd (f g : Nat → Int) (c : Int) : ∀ v : List Nat, wsum (fun a => c * f a + g a) v = c * wsum f v + wsum g v
  | [] => by simp [wsum]
  | [a] => by simp only [wsum]; rw [Int.mul_neg]; try omega
  | a :: b :: r => by
    simp only [wsum]
    rw [zdd f g c (b :: r), Int.mul_add, Int.mul_add, ← Int.mul_assoc, ← Int.mul_assoc, Int.mul_comm 2 c]
    omega
theorem zat {f g : Nat → Int} : ∀ {v : List Nat}, (∀ a ∈ v, f a = g a) → wsum f v = wsum g v
  | [], _ => rfl
  | [a], h => by simp only [wsum]; rw [h a List.mem_cons_self]
  | a :: b :: r, h => by
    simp only [wsum]
    rw [h a List.mem_cons_self, zat (v := b :: r) (fun x hx => h x (List.mem_cons_of_mem _ hx))]
theorem zcj (f : Nat → Int) (a : Nat) : ∀ u : List Nat, wsum f (u ++ [a, a]) = wsum f (u ++ [a])
  | [] => by simp only [List.nil_append, wsum] <;> (try omega)
  | [b] => by simp only [List.cons_append, List.nil_append, wsum] <;> (try omega)
  | b :: c :: r => by
    have := zcj f a (c :: r)
    simp only [List.cons_append, wsum] at this ⊢
    rw [this]
theorem zdz {S : List Int} (hS : ∀ s ∈ S, (s.natAbs : Int) ≤ 9223372036854775807) : ∀ (v : List Nat) (p q : atom_Raw.Place), v ≠ [] → (∀ a ∈ v, a < S.length) → p.2.2.2.1 = false → R64 p.1 → zaa 0 S v p = some q → q.2.2.2.2 = decide (wsum (fun a => S.getD a 0) v ≤ p.1)
  | [], _, _, h, _, _, _, _ => absurd rfl h
  | [a], p, q, _, hv, hn, hr, h => by
    have sb := hS _ (zah 0 S a (hv a List.mem_cons_self))
    have e := to_le hr (s := S.getD a 0) ⟨by omega, by omega⟩ (by omega) hn
    rw [zaa, e, Option.bind_some, zaa] at h
    obtain rfl := Option.some.inj h
    show decide (p.1 ≥ -(S.getD a 0)) = decide (wsum (fun a => S.getD a 0) [a] ≤ p.1)
    exact decide_eq_decide.2 (by simp only [wsum] <;> (try omega))
  | a :: b :: r, p, q, _, hv, hn, hr, h => by
    have sb := hS _ (zah 0 S a (hv a List.mem_cons_self))
    have sr : R64 (S.getD a 0) := ⟨by omega, by omega⟩
    have e := to_le hr sr (by omega) hn
    rw [zaa, e, Option.bind_some] at h
    have := zdz hS (b :: r) _ q (by simp) (fun x hx => hv x (List.mem_cons_of_mem _ hx)) rfl (zd1 hr sr) h
    rw [this]
    exact decide_eq_decide.2 (by simp only [wsum]; omega)
theorem zav (kind : Int) (S : List Int) : ∀ v, zaa kind S v (0, 0, false, true, false) = some (0, 0, false, true, false)
  | [] => rfl
  | a :: v => by rw [zaa, zf6, Option.bind_some]; exact zav kind S v
theorem zdq {S : List Int} (hS : ∀ s ∈ S, (s.natAbs : Int) ≤ 9223372036854775807) : ∀ (v : List Nat) (p q : atom_Raw.Place), v ≠ [] → (∀ a ∈ v, a < S.length) → p.2.2.2.1 = false → R64 p.1 → zaa 1 S v p = some q → q.2.2.2.2 = decide (wsum (fun a => S.getD a 0) v = p.1)
  | [], _, _, h, _, _, _, _ => absurd rfl h
  | [a], p, q, _, hv, hn, hr, h => by
    have sb := hS _ (zah 0 S a (hv a List.mem_cons_self))
    have e := to_eq hr (s := S.getD a 0) ⟨by omega, by omega⟩ (by omega) hn
    rw [zaa, e, Option.bind_some, zaa] at h
    obtain rfl := Option.some.inj h
    by_cases c : p.1 % 2 = S.getD a 0 % 2
    · rw [if_pos c]
      show decide (p.1 = -(S.getD a 0)) = decide (wsum (fun a => S.getD a 0) [a] = p.1)
      exact decide_eq_decide.2 (by simp only [wsum]; omega)
    · rw [if_neg c]
      show false = decide (wsum (fun a => S.getD a 0) [a] = p.1)
      exact (decide_eq_false (by simp only [wsum]; omega)).symm
  | a :: b :: r, p, q, _, hv, hn, hr, h => by
    have sb := hS _ (zah 0 S a (hv a List.mem_cons_self))
    have sr : R64 (S.getD a 0) := ⟨by omega, by omega⟩
    have e := to_eq hr sr (by omega) hn
    rw [zaa, e, Option.bind_some] at h
    by_cases c : p.1 % 2 = S.getD a 0 % 2
    · rw [if_pos c] at h
      have := zdq hS (b :: r) _ q (by simp) (fun x hx => hv x (List.mem_cons_of_mem _ hx)) rfl (zd1 hr sr) h
      rw [this]
      exact decide_eq_decide.2 (by simp only [wsum]; omega)
    · rw [if_neg c, zav] at h
      obtain rfl := Option.some.inj h
      show false = decide (wsum (fun a => S.getD a 0) (a :: b :: r) = p.1)
      exact (decide_eq_false (by simp only [wsum]; omega)).symm
theorem zgm {a m : Int} (h0 : R64 a) (h1 : 1 ≤ m) (h2 : m ≤ 9223372036854775807) : ∃ e, chk_Rest.f a m = some (a % m, e) := by
  obtain ⟨a0, a1⟩ := h0
  have q0 := Int.emod_nonneg a (show m ≠ 0 by omega)
  have q1 := Int.emod_lt_of_pos a (show 0 < m by omega)
  unfold chk_Rest.f
  rw [if_neg (by omega), if_neg (by omega)]
  by_cases c : 0 ≤ a
  · have e := Int.tmod_eq_emod_of_nonneg (b := m) c
    rw [e, if_neg (by omega)]
    exact ⟨_, rfl⟩
  · have n0 : Int.tmod a m = -(Int.tmod (-a) m) := by rw [Int.neg_tmod, Int.neg_neg]
    have n1 := Int.tmod_eq_emod_of_nonneg (a := -a) (b := m) (by omega)
    have n2 := Int.emod_nonneg (-a) (show m ≠ 0 by omega)
    have n3 := Int.emod_lt_of_pos (-a) (show 0 < m by omega)
    have n4 : m ∣ (a + (-a) % m) := ⟨-((-a) / m), by have := Int.mul_ediv_add_emod (-a) m; rw [Int.mul_neg]; omega⟩
    by_cases z : (-a) % m = 0
    · have t0 : Int.tmod a m = 0 := by omega
      have : a % m = 0 := by rw [z, Int.add_zero] at n4; exact Int.emod_eq_zero_of_dvd n4
      rw [t0, if_neg (by omega), this]
      exact ⟨_, rfl⟩
    · have t0 : Int.tmod a m = -((-a) % m) := by omega
      have t1 : a % m = m - (-a) % m := by
        obtain ⟨k, hk⟩ := n4
        have : a = (m - (-a) % m) + m * (k - 1) := by rw [Int.mul_sub, ← hk]; omega
        exact (congrArg (· % m) this).trans (by rw [Int.add_mul_emod_self_left, Int.emod_eq_of_lt (by omega) (by omega)])
      rw [t0, if_pos (by omega), w64 (by omega) (by omega), t1]
      exact ⟨_, by rw [show -(-a % m) + m = m - -a % m by omega]⟩
structure PlMod (p : atom_Raw.Place) : Prop where
  no : p.2.2.2.1 = false
  r0 : 0 ≤ p.1
  r1 : p.1 < p.2.1
  m2 : p.2.1 ≤ 9223372036854775807
theorem zas {m a b : Int} (h : m ∣ a - b) : m ∣ a ↔ m ∣ b :=
  ⟨fun k => by have := Int.dvd_sub k h; rwa [Int.sub_sub_self] at this, fun k => by have := Int.dvd_add h k; rwa [Int.sub_add_cancel] at this⟩
theorem zbx (s m : Int) : m ∣ s - s % m := ⟨s / m, by have := Int.mul_ediv_add_emod s m; omega⟩
theorem zbp {m x : Int} (h : m % 2 = 1) : m ∣ 2 * x ↔ m ∣ x := by
  constructor
  · intro k
    have k2 : m ∣ 2 * x * (m / 2) := Int.dvd_mul_of_dvd_left k
    have e : x = m * x - 2 * x * (m / 2) := by
      have : m = 2 * (m / 2) + 1 := by omega
      generalize m / 2 = j at *
      subst this
      grind
    rw [e]
    exact Int.dvd_sub (Int.dvd_mul_right m x) k2
  · intro k
    rw [Int.mul_comm]
    exact Int.dvd_mul_of_dvd_left k
theorem zcz {m x : Int} (h : m % 2 = 0) : m ∣ 2 * x ↔ m / 2 ∣ x := by
  have e : m = 2 * (m / 2) := by omega
  constructor
  · rintro ⟨k, hk⟩
    refine ⟨k, ?_⟩
    rw [e, Int.mul_assoc] at hk
    omega
  · rintro ⟨k, hk⟩
    refine ⟨k, ?_⟩
    rw [hk, ← Int.mul_assoc, ← e]
theorem za1 {m x : Int} (h0 : 0 ≤ x) (h1 : x < m) (h : m ∣ x) : x = 0 := by
  by_cases c : x = 0
  · exact c
  · have := Int.le_of_dvd (by omega) h; omega
theorem ze6 {r t m s : Int} (m1 : 1 ≤ m) (r0 : 0 ≤ r) (r1 : r < m) (ht : t = s % m) : (r == (m - t) % m) = decide (m ∣ (r + s)) := by
  have t0 := Int.emod_nonneg s (show m ≠ 0 by omega)
  have t1 := Int.emod_lt_of_pos s (show 0 < m by omega)
  rw [Bool.eq_iff_iff, beq_iff_eq, decide_eq_true_iff]
  have sh : m ∣ (r + s) ↔ m ∣ (r + t) := zas (by rw [ht, show r + s - (r + s % m) = s - s % m by omega]; exact zbx s m)
  rw [sh]
  by_cases z : t = 0
  · rw [z, Int.sub_zero, Int.emod_self, Int.add_zero]
    constructor
    · intro h; rw [h]; exact Int.dvd_zero m
    · intro h; exact za1 r0 r1 h
  · rw [Int.emod_eq_of_lt (by omega) (by omega)]
    constructor
    · intro h; rw [h, Int.sub_add_cancel]; exact Int.dvd_refl m
    · intro h
      have h2 : m ∣ (r + t - m) := Int.dvd_sub h (Int.dvd_refl m)
      by_cases c : 0 ≤ r + t - m
      · have := za1 c (by omega) h2; omega
      · have h3 : m ∣ (r + t) := h
        have := za1 (by omega) (by omega) h3; omega
theorem zex {p : atom_Raw.Place} {s : Int} (h : PlMod p) (s0 : 0 ≤ s) (s1 : s ≤ 9223372036854775807) : ∃ z, atom_Raw.to 2 p s = some z ∧
    (z = (0, 0, false, true, false) ∧ (∀ W : Int, ¬ p.2.1 ∣ (s + 2 * W - p.1)) ∨ PlMod z ∧ z.2.2.2.2 = decide (p.2.1 ∣ (p.1 + s)) ∧ ∀ W : Int, p.2.1 ∣ (s + 2 * W - p.1) ↔ z.2.1 ∣ (W - z.1)) := by
  obtain ⟨no, r0, r1, m2⟩ := h
  obtain ⟨r, m, x1, x2, x3⟩ := p
  simp only at no r0 r1 m2 ⊢
  obtain ⟨t, ht⟩ : ∃ t, t = s % m := ⟨_, rfl⟩
  have t0 := Int.emod_nonneg s (show m ≠ 0 by omega)
  have t1 := Int.emod_lt_of_pos s (show 0 < m by omega)
  rw [← ht] at t0 t1
  have tm : Int.tmod s m = t := by rw [Int.tmod_eq_emod_of_nonneg s0, ht]
  have td : Int.tdiv m 2 = m / 2 := Int.tdiv_eq_ediv_of_nonneg (by omega)
  have tell := ze6 (t := t) (s := s) (by omega) r0 r1 ht
  have tw : Int.tmod (wrap64 (m - t)) m = (m - t) % m := by rw [w64 (by omega) (by omega), Int.tmod_eq_emod_of_nonneg (by omega)]
  have sh : ∀ W : Int, m ∣ (s + 2 * W - r) ↔ m ∣ (2 * W - (r - t)) := fun W => zas (by rw [ht, show s + 2 * W - r - (2 * W - (r - s % m)) = s - s % m by omega]; exact zbx s m)
  have red : ∀ z : atom_Raw.Place, atom_congruent.f r m x1 x2 x3 s = some z → R64 z.1 → R64 z.2.1 → atom_Raw.to 2 (r, m, x1, x2, x3) s = some z := fun z hz a b => by
    unfold atom_Raw.to atom_next.f
    rw [if_neg (show ¬ x2 = true by rw [no]; decide), if_neg (by decide), if_neg (by decide)]
    simp only
    rw [hz]
    simp only [Option.bind_some]
    rw [if_pos a.wf, if_pos b.wf]
  have wd : wrap64 (r - t) = r - t := w64 (by omega) (by omega)
  by_cases me : m % 2 = 0
  · by_cases de : (r - t) % 2 = 0
    · have hr : ∃ e, chk_Rest.f ((r - t) / 2) (m / 2) = some ((r - t) / 2 % (m / 2), e) := zgm ⟨by omega, by omega⟩ (by omega) (by omega)
      obtain ⟨e, he⟩ := hr
      have q0 := Int.emod_nonneg ((r - t) / 2) (show m / 2 ≠ 0 by omega)
      have q1 := Int.emod_lt_of_pos ((r - t) / 2) (show 0 < m / 2 by omega)
      refine ⟨((r - t) / 2 % (m / 2), m / 2, false, false, r == (m - t) % m), red _ ?_ ⟨by simp only; omega, by simp only; omega⟩ ⟨by simp only; omega, by simp only; omega⟩, .inr ⟨⟨rfl, q0, q1, by simp only; omega⟩, tell, fun W => ?_⟩⟩
      · unfold atom_congruent.f
        rw [if_neg (by omega), and1, if_pos me, tm, wd, and1, if_pos de, chk_Half.f, Option.bind_some, td, w64 (x := m / 2) (by omega) (by omega), he, Option.bind_some, tw]
      · rw [sh, show 2 * W - (r - t) = 2 * (W - (r - t) / 2) by omega, zcz me]
        exact zas (by
          rw [show W - (r - t) / 2 - (W - (r - t) / 2 % (m / 2)) = -((r - t) / 2 - (r - t) / 2 % (m / 2)) by omega, Int.dvd_neg]
          exact zbx _ _)
    · refine ⟨(0, 0, false, true, false), red _ ?_ ⟨by decide, by decide⟩ ⟨by decide, by decide⟩, .inl ⟨rfl, fun W hk => ?_⟩⟩
      · unfold atom_congruent.f
        rw [if_neg (by omega), and1, if_pos me, tm, wd, and1, if_neg de]
      · rw [sh] at hk
        obtain ⟨k, hk⟩ := hk
        have e : m = 2 * (m / 2) := by omega
        rw [e, Int.mul_assoc] at hk
        omega
  · have me' : m % 2 = 1 := by omega
    have fin : ∀ d : Int, 0 ≤ d → d < m → (m ∣ (d - (r - t))) → ∃ z : atom_Raw.Place, z = (if d % 2 = 0 then d / 2 else (d + m) / 2, m, false, false, r == (m - t) % m) ∧ (PlMod z ∧ z.2.2.2.2 = decide (m ∣ (r + s)) ∧ ∀ W : Int, m ∣ (s + 2 * W - r) ↔ z.2.1 ∣ (W - z.1)) := by
      intro d d0 d1 hd
      have sd : ∀ W : Int, m ∣ (2 * W - (r - t)) ↔ m ∣ (2 * W - d) := fun W => zas (by rw [show 2 * W - (r - t) - (2 * W - d) = d - (r - t) by omega]; exact hd)
      refine ⟨_, rfl, ⟨rfl, ?_, ?_, m2⟩, tell, fun W => ?_⟩
      · show 0 ≤ (if d % 2 = 0 then d / 2 else (d + m) / 2); split <;> omega
      · show (if d % 2 = 0 then d / 2 else (d + m) / 2) < m; split <;> omega
      · show m ∣ (s + 2 * W - r) ↔ m ∣ (W - (if d % 2 = 0 then d / 2 else (d + m) / 2))
        rw [sh, sd]
        split
        · rw [show 2 * W - d = 2 * (W - d / 2) by omega, zbp me']
        · rw [← zbp me' (x := W - (d + m) / 2)]
          exact zas (by rw [show 2 * W - d - 2 * (W - (d + m) / 2) = m by omega]; exact Int.dvd_refl m)
    by_cases dn : r - t < 0
    · obtain ⟨z, hz, ok⟩ := fin (r - t + m) (by omega) (by omega) (by rw [show r - t + m - (r - t) = m by omega]; exact Int.dvd_refl m)
      refine ⟨z, red _ ?_ ⟨by have := ok.1.r0; omega, by have := ok.1.r1; have := ok.1.m2; omega⟩ ⟨by have := ok.1.r0; have := ok.1.r1; omega, ok.1.m2⟩, .inr ok⟩
      unfold atom_congruent.f
      rw [if_neg (by omega), and1, if_neg me, tm, wd, if_pos dn, w64 (x := r - t + m) (by omega) (by omega), and1, td, tw, Int.tdiv_eq_ediv_of_nonneg (by omega : 0 ≤ r - t + m), w64 (x := (r - t + m) / 2) (by omega) (by omega), w64 (x := m / 2) (by omega) (by omega), w64 (x := (r - t + m) / 2 + m / 2) (by omega) (by omega), hz]
      by_cases de : (r - t + m) % 2 = 0
      · rw [if_pos de, if_pos de]
      · rw [if_neg de, if_neg de, w64 (by omega) (by omega)]
        exact congrArg some (congrArg (fun q : Int => (q, m, false, false, r == (m - t) % m)) (by omega))
    · obtain ⟨z, hz, ok⟩ := fin (r - t) (by omega) (by omega) (by rw [Int.sub_self]; exact Int.dvd_zero m)
      refine ⟨z, red _ ?_ ⟨by have := ok.1.r0; omega, by have := ok.1.r1; have := ok.1.m2; omega⟩ ⟨by have := ok.1.r0; have := ok.1.r1; omega, ok.1.m2⟩, .inr ok⟩
      unfold atom_congruent.f
      rw [if_neg (by omega), and1, if_neg me, tm, wd, if_neg dn, and1, td, tw, Int.tdiv_eq_ediv_of_nonneg (by omega : 0 ≤ r - t), w64 (x := (r - t) / 2) (by omega) (by omega), w64 (x := m / 2) (by omega) (by omega), w64 (x := (r - t) / 2 + m / 2) (by omega) (by omega), hz]
      by_cases de : (r - t) % 2 = 0
      · rw [if_pos de, if_pos de]
      · rw [if_neg de, if_neg de, w64 (by omega) (by omega)]
        exact congrArg some (congrArg (fun q : Int => (q, m, false, false, r == (m - t) % m)) (by omega))
theorem zb9 {S : List Int} (hS : ∀ s ∈ S, 0 ≤ s ∧ s ≤ 9223372036854775807) : ∀ (v : List Nat) (p q : atom_Raw.Place), v ≠ [] → (∀ a ∈ v, a < S.length) → PlMod p → zaa 2 S v p = some q → q.2.2.2.2 = decide (p.2.1 ∣ (wsum (fun a => S.getD a 0) v - p.1))
  | [], _, _, h, _, _, _ => absurd rfl h
  | [a], p, q, _, hv, hp, h => by
    have sb := hS _ (zah 0 S a (hv a List.mem_cons_self))
    obtain ⟨z, e, hz⟩ := zex hp sb.1 sb.2
    rw [zaa, e, Option.bind_some, zaa] at h
    obtain rfl := Option.some.inj h
    have key : p.2.1 ∣ (wsum (fun a => S.getD a 0) [a] - p.1) ↔ p.2.1 ∣ (p.1 + S.getD a 0) := by
      simp only [wsum]
      rw [show -(S.getD a 0) - p.1 = -(p.1 + S.getD a 0) by omega, Int.dvd_neg]
    rcases hz with ⟨rfl, hz⟩ | ⟨_, hz, _⟩
    · have := hz (-(S.getD a 0))
      show false = decide _
      exact (decide_eq_false (fun k => this (by
        simp only [wsum] at k
        rw [show S.getD a 0 + 2 * -(S.getD a 0) - p.1 = -(S.getD a 0) - p.1 by omega]
        exact k))).symm
    · rw [hz]
      exact decide_eq_decide.2 key.symm
  | a :: b :: r, p, q, _, hv, hp, h => by
    have sb := hS _ (zah 0 S a (hv a List.mem_cons_self))
    obtain ⟨z, e, hz⟩ := zex hp sb.1 sb.2
    rw [zaa, e, Option.bind_some] at h
    rcases hz with ⟨rfl, hz⟩ | ⟨ok, _, hz⟩
    · rw [zav] at h
      obtain rfl := Option.some.inj h
      show false = decide _
      refine (decide_eq_false (fun k => hz (wsum (fun a => S.getD a 0) (b :: r)) ?_)).symm
      simp only [wsum] at k
      exact k
    · rw [zb9 hS (b :: r) z q (by simp) (fun x hx => hv x (List.mem_cons_of_mem _ hx)) ok h]
      exact decide_eq_decide.2 (by rw [← hz]; simp only [wsum])
end Go.Proofs.Ythgoonohpfoagaa.Pure
namespace Go.Proofs.Ythgoonohpfoagaa.Pure
open Go.RowKit Go.Proofs.YthgoonohpfoagaaW.PrintWords Go.Proofs.YthgoonohpfoagaaW.PrintLast Go.Proofs.YthgoonohpfoagaaW.PrintMore Go.Proofs.Ythgoonohpfoagaa.X
set_option linter.unusedVariables false
def lsum : List Int → Nat → Int
  | [], _ => 0
  | c :: cs, a => c * ((a % 2 : Nat) : Int) + lsum cs (a / 2)
theorem zcu : ∀ (l acc : List Int) (a : Nat), 0 < acc.length → a < acc.length * 2 ^ l.length → (zay acc l).getD a 0 = acc.getD (a % acc.length) 0 + lsum l (a / acc.length)
  | [], acc, a, h0, h => by
    rw [List.length_nil, Nat.pow_zero, Nat.mul_one] at h
    rw [zay, lsum, Nat.mod_eq_of_lt h, Int.add_zero]
  | c :: cs, acc, a, h0, h => by
    have len : (acc ++ acc.map (· + c)).length = acc.length * 2 := by simp; omega
    rw [zay, zcu cs (acc ++ acc.map (· + c)) a (by rw [len]; omega) (by rw [len, Nat.mul_assoc, ← Nat.pow_succ']; exact h), len, lsum, Nat.mod_mul, Nat.div_div_eq_div_mul]
    have hr := Nat.mod_lt a h0
    generalize a % acc.length = r at *
    generalize lsum cs (a / (acc.length * 2)) = z
    rcases Nat.mod_two_eq_zero_or_one (a / acc.length) with e | e
    · rw [e, Nat.mul_zero, Nat.add_zero, List.getD_eq_getElem?_getD, List.getElem?_append_left hr, ← List.getD_eq_getElem?_getD]
      simp
    · rw [e, Nat.mul_one, List.getD_eq_getElem?_getD, List.getElem?_append_right (by omega), List.getElem?_map, show r + acc.length - acc.length = r by omega, List.getD_eq_getElem?_getD, List.getElem?_eq_getElem hr]
      simp; omega
theorem zb2 {coefs : List Int} {a : Nat} (h : a < 2 ^ coefs.length) : (zay [0] coefs).getD a 0 = lsum coefs a := by
  have := zcu coefs [0] a (by simp) (by simpa using h)
  rw [this]
  simp [Nat.mod_one]
theorem zbn : ∀ (l : List Int) (a : Nat), (∀ c ∈ l, 0 ≤ c) → 0 ≤ lsum l a
  | [], _, _ => Int.le_refl _
  | c :: cs, a, h => by
    have h1 := Int.mul_nonneg (h c List.mem_cons_self) (show (0 : Int) ≤ ((a % 2 : Nat) : Int) by omega)
    have h2 := zbn cs (a / 2) (fun x hx => h x (List.mem_cons_of_mem _ hx))
    rw [lsum]; omega
def dotV : List Int → List Int → Int
  | c :: cs, v :: vs => c * v + dotV cs vs
  | _, _ => 0
theorem zc5 (x : List Int) : dotV [] x = 0 := by cases x <;> simp [dotV]
theorem zdk (a t : Nat) : ((dgt ((a : Nat) : Int) t : Nat) : Int) = ((a / 2 ^ t % 2 : Nat) : Int) := by
  rw [zdx, Int.natCast_emod, Int.natCast_ediv, Int.natCast_pow]; rfl
theorem zci : ∀ v : List Nat, wsum (fun _ => 0) v = 0
  | [] => rfl
  | [a] => rfl
  | a :: b :: r => by rw [wsum, zci (b :: r)]; rfl
theorem zdb (t : Nat) : ∀ v : List Nat, wsum (fun a => ((a / 2 ^ t % 2 : Nat) : Int)) v = tv (trk (v.map fun a => ((a : Nat) : Int)) t)
  | [] => rfl
  | [a] => by
    simp only [wsum, trk, List.map_cons, List.map_nil, tv, zdk]
  | a :: b :: r => by
    have := zdb t (b :: r)
    simp only [wsum, trk, List.map_cons, tv, zdk] at this ⊢
    rw [this]
theorem zco (v : List Nat) : ∀ (cs : List Int) (t : Nat), dotV cs ((List.range' t cs.length).map fun j => tv (trk (v.map fun a => ((a : Nat) : Int)) j)) = wsum (fun a => lsum cs (a / 2 ^ t)) v
  | [], t => by
    rw [zc5]
    exact (zci v).symm
  | c :: cs, t => by
    rw [List.length_cons, List.range'_succ, List.map_cons, dotV, zco v cs (t + 1)]
    have e : wsum (fun a => lsum (c :: cs) (a / 2 ^ t)) v = c * wsum (fun a => ((a / 2 ^ t % 2 : Nat) : Int)) v + wsum (fun a => lsum cs (a / 2 ^ (t + 1))) v := by
      rw [← zdd]
      exact zat (fun a _ => by rw [lsum, Nat.div_div_eq_div_mul, ← Nat.pow_succ])
    rw [e, zdb]
theorem zf1 {cs : List Int} {n : Nat} (hn : cs.length = n) (v : List Nat) : dotV cs (tup (v.map fun a => ((a : Nat) : Int)) n) = wsum (lsum cs) v := by
  subst hn
  have := zco v cs 0
  rw [tup, List.range_eq_range', this]
  exact zat (fun a _ => by rw [Nat.pow_zero, Nat.div_one])
def zbg (kind bound md x : Int) : Bool := if kind = 0 then decide (x ≤ bound) else if kind = 1 then decide (x = bound) else decide (md ∣ (x - bound))
theorem zeh {kind bound md : Int} {names : List ByteArray} {coefs vs : List Int} (h0 : names.length * 16 ≤ 140737488351232) (hs : ∀ x ∈ names, x.size ≤ 9223372036854775807) (h1 : coefs.length * 8 ≤ 140737488351232)
    (hw : ∀ x ∈ coefs, (Lit.int .i64 x).wf = true) (hb : (Lit.int .i64 bound).wf = true) (hm : (Lit.int .i64 md).wf = true) (g : zag kind names coefs bound md = true) (n6 : names.length ≤ 6) (hv : vs.length = names.length) (hr : ∀ x ∈ vs, R64 x) :
    Ev (fun k => truth_Normal.f k kind names coefs bound md vs) (zbg kind bound md (dotV coefs vs), 0) := by
  have hc := zc6 kind bound md names coefs h0 hs h1 hw hb
  rw [g, if_pos rfl] at hc
  unfold zag at g
  simp only [Bool.and_eq_true, decide_eq_true_eq] at g
  obtain ⟨g0, g1, g2, g3, g4, g5⟩ := g
  refine Ev.congr (fun k => by rw [truth_Normal.f]) (Ev.bind hc (Ev.cond rfl ?_))
  rw [show ((vs.length : Int) != (names.length : Int)) = false by rw [hv]; simp]
  obtain ⟨b0, l0, e0, w0⟩ := zd2 (zam hb)
  obtain ⟨b1, l1, e1, w1⟩ := zfk w0 (by omega)
  refine Ev.step (fun k => by rw [truth_Normal.j0]) (Ev.ncond (by decide) (Ev.bind e0 (Ev.bind e1 ?_)))
  have key : ∀ (s i : Nat) (b : Bool) (l : List Int) (D : Int), i + s = coefs.length → Wh b l D (4 + i) → D + dotV (coefs.drop i) (vs.drop i) = dotV coefs vs - bound →
      Ev (fun k => truth_Normal.l0 k vs coefs (coefs.length : Int) (i : Int) kind names coefs bound md b l) (zbg kind bound md (dotV coefs vs), 0) := by
    intro s
    induction s with
    | zero =>
      intro i b l D hi hW he
      rw [List.drop_of_length_le (by omega), zc5, Int.add_zero] at he
      have hsn := zgr hW
      refine Ev.step (fun k => by rw [truth_Normal.l0]) (Ev.ncond (by omega) ?_)
      unfold zbg
      by_cases k0 : kind = 0
      · refine Ev.cond k0 (Ev.ret hsn.1 (Ev.fin ?_))
        rw [if_pos k0]
        refine congrArg (fun z => (z, (0 : Int))) (decide_eq_decide.2 ?_)
        by_cases c : D = 0
        · rw [if_pos c]; omega
        · rw [if_neg c]; split <;> omega
      · rw [if_neg k0]
        by_cases k1 : kind = 1
        · refine Ev.ncond k0 (Ev.cond k1 (Ev.ret hsn.1 (Ev.fin ?_)))
          rw [if_pos k1]
          refine congrArg (fun z => (z, (0 : Int))) (Bool.eq_iff_iff.2 ?_)
          rw [beq_iff_eq, decide_eq_true_iff]
          by_cases c : D = 0
          · rw [if_pos c]; omega
          · rw [if_neg c]; split <;> omega
        · rw [if_neg k1]
          have k2 : kind = 2 := by omega
          rw [if_pos k2, Bool.and_eq_true, decide_eq_true_eq] at g5
          have M2 := (zam hm).2
          refine Ev.ncond k0 (Ev.ncond k1 (Ev.bind (zdh hW (by omega) g5.1 M2) (Ev.fin ?_)))
          rw [he]
    | succ s ih =>
      intro i b l D hi hW he
      have ii : i < coefs.length := by omega
      have iv : i < vs.length := by omega
      have rc : rd coefs (i : Int) = coefs[i] := zbf coefs ii
      have rv : rd vs (i : Int) = vs[i] := zbf vs iv
      obtain ⟨b2, l2, e2, w2⟩ := zd2 (zam (hw _ (List.getElem_mem ii)))
      obtain ⟨b3, l3, e3, w3⟩ := zd2 (hr _ (List.getElem_mem iv))
      obtain ⟨b4, l4, e4, w4⟩ := ze9 w2 w3 (by omega) (by omega)
      obtain ⟨b5, l5, e5, w5⟩ := zgk hW (w4.more (by omega)) (by omega)
      have hd : dotV (coefs.drop i) (vs.drop i) = coefs[i] * vs[i] + dotV (coefs.drop (i + 1)) (vs.drop (i + 1)) := by
        rw [List.drop_eq_getElem_cons ii, List.drop_eq_getElem_cons iv, dotV]
      have nxt := ih (i + 1) b5 l5 _ (by omega) w5 (by rw [hd] at he; omega)
      refine Ev.step (fun k => by rw [truth_Normal.l0]) (Ev.cond (by omega) (Ev.cond (by omega) (Ev.cond (by omega) ?_)))
      rw [rc, rv, w64 (by omega) (by omega)]
      exact Ev.bind e2 (Ev.cond (by omega) (Ev.bind e3 (Ev.bind e4 (Ev.bind e5 nxt))))
  exact key coefs.length 0 b1 l1 (-bound) (by omega) (w1.more (by omega)) (by rw [List.drop_zero, List.drop_zero]; omega)
end Go.Proofs.Ythgoonohpfoagaa.Pure
namespace Go.Proofs.Ythgoonohpfoagaa.Pure
open Go.RowKit Go.Proofs.YthgoonohpfoagaaW.PrintWords Go.Proofs.YthgoonohpfoagaaW.PrintLast Go.Proofs.YthgoonohpfoagaaW.PrintMore Go.Proofs.Ythgoonohpfoagaa.X
set_option linter.unusedVariables false
theorem zgh {kind : Int} {S : List Int} {ps : List atom_Raw.Place} {ac : List Bool} {nx : List (List Int)} {q : Nat} {p : atom_Raw.Place} (h : StOk kind S ps ac nx q p) {a : Nat} (ha : a < S.length) :
    acF ac q = p.2.2.2.2 ∧ ∃ z, atom_Raw.to kind p (S.getD a 0) = some z ∧ ps[dlF nx q a]? = some z := by
  obtain ⟨h1, r, h2, h3, h4⟩ := h
  obtain ⟨z, n, e1, e2, e3⟩ := h4 a ha
  refine ⟨by rw [acF, List.getD_eq_getElem?_getD, h1]; rfl, z, ?_, ?_⟩
  · rw [List.getD_eq_getElem?_getD, List.getElem?_eq_getElem ha]; exact e1
  · have : dlF nx q a = n := by
      have hq : nx.getD q [] = r := by rw [List.getD_eq_getElem?_getD, h2]; rfl
      rw [dlF, hq, List.getD_eq_getElem?_getD, e2, Option.getD_some, Int.toNat_natCast]
    rw [this]; exact e3
theorem zbt {kind : Int} {S : List Int} {ps : List atom_Raw.Place} {ac : List Bool} {nx : List (List Int)} (ok : ∀ i p, ps[i]? = some p → StOk kind S ps ac nx i p) : ∀ (v : List Nat) (q : Nat) (p : atom_Raw.Place), Let S.length v → ps[q]? = some p →
    ∃ p', zaa kind S v p = some p' ∧ ps[runN (dlF nx) q v]? = some p'
  | [], q, p, _, hp => ⟨p, rfl, hp⟩
  | a :: v, q, p, hv, hp => by
    obtain ⟨_, z, e1, e2⟩ := zgh (ok q p hp) (hv a List.mem_cons_self)
    obtain ⟨p', h1, h2⟩ := zbt ok v (dlF nx q a) z (fun x hx => hv x (List.mem_cons_of_mem _ hx)) e2
    exact ⟨p', by rw [zaa, e1, Option.bind_some]; exact h1, h2⟩
theorem zbu {kind : Int} {S : List Int} {ps : List atom_Raw.Place} {ac : List Bool} {nx : List (List Int)} (ok : ∀ i p, ps[i]? = some p → StOk kind S ps ac nx i p) {q : Nat} {p : atom_Raw.Place} (hp : ps[q]? = some p) : acF ac q = p.2.2.2.2 := by
  obtain ⟨h1, _⟩ := ok q p hp
  rw [acF, List.getD_eq_getElem?_getD, h1]; rfl
theorem zbw {kind bound md : Int} {names : List ByteArray} {coefs : List Int} (hb : (Lit.int .i64 bound).wf = true) (hm : (Lit.int .i64 md).wf = true) (g : zag kind names coefs bound md = true) {v : List Nat} (hne : v ≠ []) (hv : ∀ a ∈ v, a < 2 ^ coefs.length)
    {q : atom_Raw.Place} (h : zaa kind (atom_sums.L [0] coefs) v (bound, md, true, false, false) = some q) : q.2.2.2.2 = zbg kind bound md (wsum (lsum coefs) v) := by
  have sl : (atom_sums.L [0] coefs).length = 2 ^ coefs.length := by rw [zax]; simp
  unfold zag at g
  simp only [Bool.and_eq_true, decide_eq_true_eq] at g
  obtain ⟨g0, g1, g2, g3, g4, g5⟩ := g
  simp only [absS] at g4
  have e0 : ∀ s ∈ [(0 : Int)], (s.natAbs : Int) + absS coefs ≤ 9223372036854775807 := fun s h => by rw [List.mem_singleton.1 h]; simp only [Int.natAbs_zero]; omega
  obtain ⟨es, bs⟩ := zb1 coefs [0] 9223372036854775807 (by omega) e0
  rw [← es] at bs
  have hv' : ∀ a ∈ v, a < (atom_sums.L [0] coefs).length := by rw [sl]; exact hv
  have ew : wsum (fun a => (atom_sums.L [0] coefs).getD a 0) v = wsum (lsum coefs) v := zat (fun a ha => by rw [es]; exact zb2 (hv a ha))
  unfold zbg
  by_cases k0 : kind = 0
  · subst k0
    rw [if_pos rfl, zdz bs v _ q hne hv' rfl (zam hb) h, ew]
  · rw [if_neg k0]
    by_cases k1 : kind = 1
    · subst k1
      rw [if_pos rfl, zdq bs v _ q hne hv' rfl (zam hb) h, ew]
    · rw [if_neg k1]
      obtain rfl : kind = 2 := by omega
      rw [if_pos rfl, Bool.and_eq_true, decide_eq_true_eq, List.all_eq_true] at g5
      have gb := g5.2 bound List.mem_cons_self
      rw [Bool.and_eq_true, decide_eq_true_eq, decide_eq_true_eq] at gb
      have pos : ∀ s ∈ atom_sums.L [0] coefs, 0 ≤ s ∧ s ≤ 9223372036854775807 := fun s hs => by
        obtain ⟨a, ha, e⟩ := List.getElem_of_mem hs
        have la := zb2 (coefs := coefs) (a := a) (by rw [← sl]; exact ha)
        rw [← es, List.getD_eq_getElem?_getD, List.getElem?_eq_getElem ha, Option.getD_some, e] at la
        have h2 := zbn coefs a (fun c hc => by
          have := g5.2 c (List.mem_cons_of_mem _ hc)
          rw [Bool.and_eq_true, decide_eq_true_eq, decide_eq_true_eq] at this
          exact this.1)
        have h1 := bs s hs
        rw [← la] at h2
        omega
      rw [zb9 pos v _ q hne hv' ⟨rfl, gb.1, gb.2, (zam hm).2⟩ h, ew]
theorem zft {kind bound md : Int} {names : List ByteArray} {coefs : List Int} {ac : List Bool} {nx : List (List Int)} (hs : ∀ x ∈ names, x.size ≤ 9223372036854775807) (n6 : names.length ≤ 6) (g : zag kind names coefs bound md = true) (m : zar kind (atom_sums.L [0] coefs) bound md ac nx) : DOk names ac nx := by
  unfold zag at g
  simp only [Bool.and_eq_true, decide_eq_true_eq] at g
  obtain ⟨g0, g1, g2, g3, g4, g5⟩ := g
  obtain ⟨h1, h2, h3, h4⟩ := m.one
  have sl : (atom_sums.L [0] coefs).length = 2 ^ names.length := by rw [zax, g3]; simp
  exact ⟨⟨n6, h1, h2, g2⟩, h3, fun r hr => by rw [← sl]; exact h4 r hr⟩
theorem zd6 {kind bound md : Int} {names : List ByteArray} {coefs : List Int} {ac : List Bool} {nx : List (List Int)} (hb : (Lit.int .i64 bound).wf = true) (hm : (Lit.int .i64 md).wf = true) (g : zag kind names coefs bound md = true) (m : zar kind (atom_sums.L [0] coefs) bound md ac nx) : zdt ac nx (2 ^ names.length) := by
  have g3 : names.length = coefs.length := by
    unfold zag at g
    simp only [Bool.and_eq_true, decide_eq_true_eq] at g
    exact g.2.2.2.1
  have sl : (atom_sums.L [0] coefs).length = 2 ^ names.length := by rw [zax, g3]; simp
  obtain ⟨ps, p0, _, _, _, ok⟩ := m
  refine ⟨zbu ok p0, fun w hw a ha => ?_⟩
  have l1 : Let (2 ^ names.length) (w ++ [a]) := by
    intro c hc
    rcases List.mem_append.1 hc with h | h
    · exact hw c h
    · rw [List.mem_singleton.1 h]; exact ha
  have l2 : Let (2 ^ names.length) (w ++ [a, a]) := by
    intro c hc
    rcases List.mem_append.1 hc with h | h
    · exact hw c h
    · simp at h; rw [h]; exact ha
  obtain ⟨p1, e1, f1⟩ := zbt ok (w ++ [a]) 0 _ (by rw [sl]; exact l1) p0
  obtain ⟨p2, e2, f2⟩ := zbt ok (w ++ [a, a]) 0 _ (by rw [sl]; exact l2) p0
  have r1 : runN (dlF nx) 0 (w ++ [a]) = dlF nx (runN (dlF nx) 0 w) a := by simp [runN]
  have r2 : runN (dlF nx) 0 (w ++ [a, a]) = dlF nx (dlF nx (runN (dlF nx) 0 w) a) a := by simp [runN]
  rw [← r2, ← r1, zbu ok f1, zbu ok f2, zbw hb hm g (by simp) (by rw [← g3]; exact l1) e1, zbw hb hm g (by simp) (by rw [← g3]; exact l2) e2, zcj]
theorem zgt {kind bound md : Int} {names : List ByteArray} {coefs : List Int} {ac : List Bool} {nx : List (List Int)} (hs : ∀ x ∈ names, x.size ≤ 9223372036854775807) (hb : (Lit.int .i64 bound).wf = true) (hm : (Lit.int .i64 md).wf = true) (n6 : names.length ≤ 6) (g : zag kind names coefs bound md = true) (m : zar kind (atom_sums.L [0] coefs) bound md ac nx) :
    Ev (fun k => canon_Sound.f k names ac nx) true := by
  have d := zft hs n6 g m
  have h64 : 2 ^ names.length ≤ 64 := Nat.le_trans (Nat.pow_le_pow_right (by decide) n6) (by decide)
  obtain ⟨cl, K, C⟩ := zfi hs (by omega) (fun r hr => by rw [(d.rows r hr).1]; omega) d
  have mm := min_mk C.rt C.least C.stop
  obtain ⟨b, hb', hb2⟩ := zfq C.min mm
  obtain rfl := hb2.2 (C.sound.2 (zd6 hb hm g m))
  exact hb'
end Go.Proofs.Ythgoonohpfoagaa.Pure
namespace Go.Proofs.Ythgoonohpfoagaa.Pure
open Go.RowKit Go.Proofs.YthgoonohpfoagaaW.PrintWords Go.Proofs.YthgoonohpfoagaaW.PrintLast Go.Proofs.YthgoonohpfoagaaW.PrintMore Go.Proofs.Ythgoonohpfoagaa.X
set_option linter.unusedVariables false
theorem zgs : Ev (fun k => tabardlaw14_fixed.f k) true := Ev.of (fun k => tabardlaw14_fixed.mono k) (k := 300) (by decide +kernel)
theorem AtomTakes (kind : Int) (hkw : (Lit.int .i64 kind).wf = true) (names : List ByteArray) (h0 : names.length * 16 ≤ 140737488351232) (hs : ∀ x ∈ names, x.size ≤ maxLen) (coefs : List Int) (h1 : coefs.length * 8 ≤ 140737488351232)
    (hw : ∀ x ∈ coefs, (Lit.int .i64 x).wf = true) (bound : Int) (hb : (Lit.int .i64 bound).wf = true) (md : Int) (hm : (Lit.int .i64 md).wf = true)
    (ws : List (List Int)) (h4 : ws.length * 24 ≤ 140737488351232) (q4 : ∀ x ∈ ws, x.length * 8 ≤ 140737488351232 ∧ ∀ a ∈ x, (Lit.int .i64 a).wf = true) :
    ∃ k, tabardlaw14_AtomTakes.f k kind names coefs bound md ws = some true := by
  obtain ⟨tr, ac, nx, er, hr, ca, _, cz⟩ := zej (kind := kind) h0 hs h1 hw hb hm
  refine Ev.rounds (Ev.congr (fun k => by rw [tabardlaw14_AtomTakes.f]) (Ev.bind zgs (Ev.cond rfl (Ev.ret (zcb h0 h1) (Ev.bind hr ?_)))))
  by_cases c : er = 0
  · obtain ⟨g, n6, rfl, m⟩ := ca c
    have g2 : za4 tr = true ∧ tr.length = coefs.length := by
      unfold zag at g
      simp only [Bool.and_eq_true, decide_eq_true_eq] at g
      exact ⟨g.2.2.1, g.2.2.2.1⟩
    have sl : (atom_sums.L [0] coefs).length = 2 ^ tr.length := by rw [zax, g2.2]; simp
    have R := m.right n6 hs g2.1 sl
    have S := zgt hs hb hm n6 g m
    refine Ev.cond c (Ev.bind R (Ev.cond rfl (Ev.bind S (Ev.step (fun k => by rw [tabardlaw14_AtomTakes.j0]) (Ev.ncond (show ¬ (!true) = true by decide) ?_)))))
    have key : ∀ (s i : Nat), i + s = ws.length → Ev (fun k => tabardlaw14_AtomTakes.l0 k ws (ws.length : Int) (i : Int) kind tr coefs bound md tr ac nx) true := by
      intro s
      induction s with
      | zero => intro i hi; exact Ev.step (fun k => by rw [tabardlaw14_AtomTakes.l0]) (Ev.ncond (by omega) (Ev.fin rfl))
      | succ s ih =>
        intro i hi
        have ii : i < ws.length := by omega
        have nxt := ih (i + 1) (by omega)
        have rw_ : rd_L3 ws (i : Int) = ws[i] := zb6 ws ii
        have hl := (q4 _ (List.getElem_mem ii)).1
        have hd := zew (w := ws[i]) (by omega) (tr.length : Int)
        refine Ev.step (fun k => by rw [tabardlaw14_AtomTakes.l0]) (Ev.cond (by omega) (Ev.cond (by omega) (Ev.cond (by omega) (Ev.ret rfl ?_))))
        rw [rw_, List.nil_append, w64 (by omega) (by omega)]
        refine Ev.cond (by simp only [List.length_nil]; omega) (Ev.bind hd ?_)
        refine Ev.ite (fun z => ?_) (fun _ => nxt)
        have dec : ws[i] ≠ [] ∧ zap ws[i] tr.length ∧ ws[i].length ≤ 64 ∧ (decS ws[i] (tr.length : Int)).1 = tup ws[i] tr.length := by
          unfold decS at z ⊢
          rw [if_neg (by omega)] at z ⊢
          by_cases e1 : ws[i] = []
          · rw [if_pos e1] at z; cases z
          · rw [if_neg e1] at z ⊢
            by_cases e2 : ws[i].length > 64
            · rw [if_pos e2] at z; cases z
            · rw [if_neg e2, Int.toNat_natCast] at z ⊢
              by_cases e3 : zap ws[i] tr.length
              · rw [if_pos e3]; exact ⟨e1, e3, by omega, rfl⟩
              · rw [if_neg e3] at z; cases z
        obtain ⟨d1, d2, d3, d4⟩ := dec
        obtain ⟨v, ev⟩ : ∃ v : List Nat, v = ws[i].map Int.toNat := ⟨_, rfl⟩
        have ew : ws[i] = v.map fun a => ((a : Nat) : Int) := by
          rw [ev, List.map_map]
          exact (List.map_id' _).symm.trans (List.map_congr_left (fun x hx => by have := d2 x hx; show x = ((x.toNat : Nat) : Int); omega))
        have lv : ∀ a ∈ v, a < 2 ^ tr.length := fun a ha => by
          rw [ev] at ha
          obtain ⟨x, hx, rfl⟩ := List.mem_map.1 ha
          have := d2 x hx; omega
        have N := zeh (vs := tup ws[i] tr.length) h0 hs h1 hw hb hm g n6 (zd9 _ _) (fun x hx => by
          rw [tup] at hx
          obtain ⟨t, _, rfl⟩ := List.mem_map.1 hx
          exact tv_i64 (zcs _ _) (zez d1 _) (by rw [zal]; exact d3))
        rw [d4]
        refine Ev.ret (zcb h0 h1) (Ev.bind N (Ev.cond rfl ?_))
        obtain ⟨ps, p0, pa, pn, p6, ok⟩ := m
        obtain ⟨p', h5, h6⟩ := zea (ns := tr) pn pa (by omega) ok ew (by rw [sl]; exact lv) (by omega) p0
        refine Ev.bind h6 (Ev.ncond ?_ nxt)
        have vn : v ≠ [] := fun e => d1 (by rw [ew, e]; rfl)
        rw [zbw hb hm g vn (by rw [← g2.2]; exact lv) h5, ew, zf1 g2.2.symm v]
        simp
    exact key ws.length 0 (by omega)
  · refine Ev.ncond c (Ev.fin ?_)
    rw [cz c]; rfl
end Go.Proofs.Ythgoonohpfoagaa.Pure
