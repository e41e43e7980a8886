/- The law AtomScales over lists alone, and all that it leans on; no condition beyond the statement's own. -/
import Derived.Test.YthgoonohpfoagaaX0
import Derived.Test.YthgoonohpfoagaaX0
import Derived.Test.YthgoonohpfoagaaX1
import Derived.Test.YthgoonohpfoagaaX10
import Derived.Test.YthgoonohpfoagaaX11
import Derived.Test.YthgoonohpfoagaaX12
import Derived.Test.YthgoonohpfoagaaX13
import Derived.Test.YthgoonohpfoagaaX14
import Derived.Test.YthgoonohpfoagaaX15
import Derived.Test.YthgoonohpfoagaaX17
import Derived.Test.YthgoonohpfoagaaX18
import Derived.Test.YthgoonohpfoagaaX19
import Derived.Test.YthgoonohpfoagaaX2
import Derived.Test.YthgoonohpfoagaaX20
import Derived.Test.YthgoonohpfoagaaX21
import Derived.Test.YthgoonohpfoagaaX22
import Derived.Test.YthgoonohpfoagaaX23
import Derived.Test.YthgoonohpfoagaaX3
import Derived.Test.YthgoonohpfoagaaX33
import Derived.Test.YthgoonohpfoagaaX34
import Derived.Test.YthgoonohpfoagaaX35
import Derived.Test.YthgoonohpfoagaaX36
import Derived.Test.YthgoonohpfoagaaX37
import Derived.Test.YthgoonohpfoagaaX38
import Derived.Test.YthgoonohpfoagaaX39
import Derived.Test.YthgoonohpfoagaaX4
import Derived.Test.YthgoonohpfoagaaX40
import Derived.Test.YthgoonohpfoagaaX5
import Derived.Test.YthgoonohpfoagaaX56
import Derived.Test.YthgoonohpfoagaaX6
import Derived.Test.YthgoonohpfoagaaX65
import Derived.Test.YthgoonohpfoagaaX7
import Derived.Test.YthgoonohpfoagaaX8
import Derived.Test.YthgoonohpfoagaaX9
import Derived.Lib.DecodeN
import Derived.Laws.BitsLemmas
namespace Go.Proofs.Ythgoonohpfoagaa.Pure
open Go.RowKit Go.Proofs.YthgoonohpfoagaaW.PrintWords Go.Proofs.YthgoonohpfoagaaW.PrintLast Go.Proofs.YthgoonohpfoagaaW.PrintMore Go.Proofs.Ythgoonohpfoagaa.X
set_option linter.unusedVariables false
theorem Ev.cond {α : Type} {c : Prop} [Decidable c] {f g : Nat → Option α} {r : α} (h : c) (k : Ev f r) : Ev (fun n => if c then f n else g n) r :=
  Ev.congr (fun _ => if_pos h) k
theorem Ev.ncond {α : Type} {c : Prop} [Decidable c] {f g : Nat → Option α} {r : α} (h : ¬ c) (k : Ev g r) : Ev (fun n => if c then f n else g n) r :=
  Ev.congr (fun _ => if_neg h) k
theorem Ev.ite {α : Type} {c : Prop} [Decidable c] {f g : Nat → Option α} {r : α} (h : c → Ev f r) (k : ¬ c → Ev g r) : Ev (fun n => if c then f n else g n) r := by
  by_cases hc : c
  · exact Ev.cond hc (h hc)
  · exact Ev.ncond hc (k hc)
theorem Ev.fin {α : Type} {r q : α} (h : r = q) : Ev (fun _ => Option.some r) q := h ▸ Ev.now r
theorem Ev.ret {α β : Type} {g : Option α} {a : α} {f : Nat → α → Option β} {r : β} (h : g = Option.some a) (k : Ev (fun n => f n a) r) : Ev (fun n => g.bind (f n)) r := by
  subst h; exact k
theorem w64 {x : Int} (h0 : -9223372036854775808 ≤ x) (h1 : x ≤ 9223372036854775807) : wrap64 x = x := by unfold wrap64; omega
theorem u64 {x : Int} (h0 : 0 ≤ x) (h1 : x < 18446744073709551616) : IntKind.u64.wrap x = x := by
  simp [IntKind.wrap, IntKind.bits, IntKind.signed]; omega
theorem zeu (x : Int) : IntKind.u64.wrap x = x % 18446744073709551616 := by simp [IntKind.wrap, IntKind.bits, IntKind.signed]
theorem zaf (l : List Int) (i : Nat) : rd l (i : Int) = l.getD i 0 := by simp [rd]
theorem zay {x : Int} (h : (Lit.int .i64 x).wf = true) : -9223372036854775808 ≤ x ∧ x ≤ 9223372036854775807 := by
  simp [Lit.wf, IntKind.min, IntKind.max, IntKind.signed, IntKind.bits] at h; omega
end Go.Proofs.Ythgoonohpfoagaa.Pure
namespace Go.Proofs.Ythgoonohpfoagaa.Pure
open Go.RowKit Go.Proofs.YthgoonohpfoagaaW.PrintWords Go.Proofs.YthgoonohpfoagaaW.PrintLast Go.Proofs.YthgoonohpfoagaaW.PrintMore Go.Proofs.Ythgoonohpfoagaa.X
theorem mn_le (s x y : Int) : s ≤ mn x y ↔ s ≤ x ∧ s ≤ y := by unfold mn; split <;> omega
theorem mx_lt (s x y : Int) : mx x y < s ↔ x < s ∧ y < s := by unfold mx; split <;> omega
theorem za5 (p : Int → Prop) (a : List Int) {i : Nat} (h : i < a.length) : (∀ x ∈ a.drop i, p x) ↔ p (rd a (i : Int)) ∧ ∀ x ∈ a.drop (i + 1), p x := by
  rw [List.drop_eq_getElem_cons h, zaf, List.getD_eq_getElem?_getD, List.getElem?_eq_getElem h]
  exact List.forall_mem_cons
theorem min_ev (a : List Int) (h1 : 1 ≤ a.length) (ha : a.length ≤ 9000000000000000000) : ∃ r, Ev (fun k => slices_Min_int_int.f k a) r ∧ ∀ s, s ≤ r ↔ ∀ x ∈ a, s ≤ x := by
  have key : ∀ (m i : Nat) (c : Int), i + m = a.length → ∃ r, Ev (fun k => slices_Min_int_int.l0 k a c (i : Int)) r ∧ ∀ s, s ≤ r ↔ s ≤ c ∧ ∀ x ∈ a.drop i, s ≤ x := by
    intro m
    induction m with
    | zero =>
      intro i c hi
      refine ⟨c, Ev.step (fun k => by rw [slices_Min_int_int.l0]) (Ev.ncond (by omega) (Ev.fin rfl)), fun s => ?_⟩
      rw [List.drop_eq_nil_of_le (by omega)]; simp
    | succ m ih =>
      intro i c hi
      obtain ⟨r, hr, hs⟩ := ih (i + 1) (mn c (rd a (i : Int))) (by omega)
      refine ⟨r, Ev.step (fun k => by rw [slices_Min_int_int.l0]) (Ev.cond (by omega) (Ev.cond (by omega) ?_)), fun s => ?_⟩
      · rw [w64 (by omega) (by omega)]; exact hr
      · rw [hs, mn_le, za5 (fun x => s ≤ x) a (i := i) (by omega), and_assoc]
  obtain ⟨r, hr, hs⟩ := key (a.length - 1) 1 (rd a 0) (by omega)
  have hr' : Ev (fun k => slices_Min_int_int.l0 k a (rd a 0) 1) r := hr
  refine ⟨r, Ev.congr (fun k => by rw [slices_Min_int_int.f]) (Ev.ncond (by omega) (Ev.cond (by omega) hr')), fun s => ?_⟩
  rw [hs, show (∀ x ∈ a, s ≤ x) ↔ (∀ x ∈ a.drop 0, s ≤ x) by rw [List.drop_zero], za5 (fun x => s ≤ x) a (i := 0) (by omega)]
  exact Iff.rfl
theorem max_ev (a : List Int) (h1 : 1 ≤ a.length) (ha : a.length ≤ 9000000000000000000) : ∃ r, Ev (fun k => slices_Max_int_int.f k a) r ∧ ∀ s, r < s ↔ ∀ x ∈ a, x < s := by
  have key : ∀ (m i : Nat) (c : Int), i + m = a.length → ∃ r, Ev (fun k => slices_Max_int_int.l0 k a c (i : Int)) r ∧ ∀ s, r < s ↔ c < s ∧ ∀ x ∈ a.drop i, x < s := by
    intro m
    induction m with
    | zero =>
      intro i c hi
      refine ⟨c, Ev.step (fun k => by rw [slices_Max_int_int.l0]) (Ev.ncond (by omega) (Ev.fin rfl)), fun s => ?_⟩
      rw [List.drop_eq_nil_of_le (by omega)]; simp
    | succ m ih =>
      intro i c hi
      obtain ⟨r, hr, hs⟩ := ih (i + 1) (mx c (rd a (i : Int))) (by omega)
      refine ⟨r, Ev.step (fun k => by rw [slices_Max_int_int.l0]) (Ev.cond (by omega) (Ev.cond (by omega) ?_)), fun s => ?_⟩
      · rw [w64 (by omega) (by omega)]; exact hr
      · rw [hs, mx_lt, za5 (fun x => x < s) a (i := i) (by omega), and_assoc]
  obtain ⟨r, hr, hs⟩ := key (a.length - 1) 1 (rd a 0) (by omega)
  have hr' : Ev (fun k => slices_Max_int_int.l0 k a (rd a 0) 1) r := hr
  refine ⟨r, Ev.congr (fun k => by rw [slices_Max_int_int.f]) (Ev.ncond (by omega) (Ev.cond (by omega) hr')), fun s => ?_⟩
  rw [hs, show (∀ x ∈ a, x < s) ↔ (∀ x ∈ a.drop 0, x < s) by rw [List.drop_zero], za5 (fun x => x < s) a (i := 0) (by omega)]
  exact Iff.rfl
def zdl (l : List Int) : Prop := (∃ j, j ≤ 6 ∧ l.length = 2 ^ j) ∧ ∀ x ∈ l, 0 ≤ x
theorem pow6 {n : Nat} (h : n ≤ 6) : 2 ^ n ≤ 64 := by
  have := Nat.pow_le_pow_right (show 0 < 2 by omega) h
  omega
theorem zdl.len {l : List Int} (h : zdl l) : 1 ≤ l.length ∧ l.length ≤ 64 := by
  obtain ⟨⟨j, hj, e⟩, _⟩ := h
  have := pow6 hj
  have := Nat.two_pow_pos j
  omega
noncomputable instance decRow (l : List Int) : Decidable (zdl l) := Classical.propDecidable _
end Go.Proofs.Ythgoonohpfoagaa.Pure
namespace Go.Proofs.Ythgoonohpfoagaa.Pure
open Go.RowKit Go.Proofs.YthgoonohpfoagaaW.PrintWords Go.Proofs.YthgoonohpfoagaaW.PrintLast Go.Proofs.YthgoonohpfoagaaW.PrintMore Go.Proofs.Ythgoonohpfoagaa.X
set_option linter.unusedVariables false
theorem zeo : ∀ j : Fin 7, shl .i64 1 (j.1 : Int) = ((2 ^ j.1 : Nat) : Int) := by decide +kernel
end Go.Proofs.Ythgoonohpfoagaa.Pure
namespace Go.Proofs.Ythgoonohpfoagaa.Pure
open Go.RowKit Go.Proofs.YthgoonohpfoagaaW.PrintWords Go.Proofs.YthgoonohpfoagaaW.PrintLast Go.Proofs.YthgoonohpfoagaaW.PrintMore Go.Proofs.Ythgoonohpfoagaa.X
set_option linter.unusedVariables false
theorem za2 {α : Type} (d : α) (l : List α) {i : Nat} (h : i < l.length) : rdOf d l (i : Int) = l[i] := by
  simp [rdOf, List.getD_eq_getElem?_getD, h]
theorem zcl (l : List Int) {i : Nat} (h : i < l.length) : rd l (i : Int) = l[i] := by
  rw [zaf, List.getD_eq_getElem?_getD, List.getElem?_eq_getElem h]; rfl
theorem zcx (l : List (List Int)) {i : Nat} (h : i < l.length) : rd_L3 l (i : Int) = l[i] := by
  simp [rd_L3, List.getD_eq_getElem?_getD, h]
end Go.Proofs.Ythgoonohpfoagaa.Pure
namespace Go.Proofs.Ythgoonohpfoagaa.Pure
open Go.RowKit Go.Proofs.YthgoonohpfoagaaW.PrintWords Go.Proofs.YthgoonohpfoagaaW.PrintLast Go.Proofs.YthgoonohpfoagaaW.PrintMore Go.Proofs.Ythgoonohpfoagaa.X
set_option linter.unusedVariables false
def zab (r : Int) : Bool := decide ((65 ≤ r ∧ r ≤ 90) ∨ (97 ≤ r ∧ r ≤ 122) ∨ r = 95 ∨ (913 ≤ r ∧ r ≤ 929) ∨ (931 ≤ r ∧ r ≤ 937) ∨ (945 ≤ r ∧ r ≤ 969))
def zaq (r : Int) : Bool := zab r || decide ((48 ≤ r ∧ r ≤ 57) ∨ r = 8242 ∨ (8320 ≤ r ∧ r ≤ 8329))
theorem zcn (r : Int) (b : Bool) : Ev (fun k => glyph_Start.j3 k r b) (b || decide (945 ≤ r ∧ r ≤ 969)) := by
  cases b
  · refine Ev.step (fun k => by rw [glyph_Start.j3]) (Ev.ncond (by decide) (Ev.ite (fun h => Ev.ite (fun g => Ev.fin ?_) (fun g => Ev.fin ?_)) (fun h => Ev.fin ?_))) <;> simp <;> omega
  · rw [Bool.true_or]; exact Ev.step (fun k => by rw [glyph_Start.j3]) (Ev.cond rfl (Ev.fin rfl))
theorem zcs (r : Int) (b : Bool) : Ev (fun k => glyph_Start.j2 k r b) (b || decide ((931 ≤ r ∧ r ≤ 937) ∨ (945 ≤ r ∧ r ≤ 969))) := by
  cases b
  · refine Ev.step (fun k => by rw [glyph_Start.j2]) (Ev.ncond (by decide) (Ev.ite (fun h => ?_) (fun h => ?_)))
    · have := zcn r (decide (r ≤ 937))
      rwa [show (decide (r ≤ 937) || decide (945 ≤ r ∧ r ≤ 969)) = (false || decide ((931 ≤ r ∧ r ≤ 937) ∨ (945 ≤ r ∧ r ≤ 969))) by rw [Bool.eq_iff_iff]; simp; omega] at this
    · have := zcn r false
      rwa [show (false || decide (945 ≤ r ∧ r ≤ 969)) = (false || decide ((931 ≤ r ∧ r ≤ 937) ∨ (945 ≤ r ∧ r ≤ 969))) by rw [Bool.eq_iff_iff]; simp; omega] at this
  · rw [Bool.true_or]; exact Ev.step (fun k => by rw [glyph_Start.j2]) (Ev.cond rfl (Ev.fin rfl))
theorem za4 (r : Int) (b : Bool) : Ev (fun k => glyph_Start.j1 k r b) (b || decide ((913 ≤ r ∧ r ≤ 929) ∨ (931 ≤ r ∧ r ≤ 937) ∨ (945 ≤ r ∧ r ≤ 969))) := by
  cases b
  · refine Ev.step (fun k => by rw [glyph_Start.j1]) (Ev.ncond (by decide) (Ev.ite (fun h => ?_) (fun h => ?_)))
    · have := zcs r (decide (r ≤ 929))
      rwa [show (decide (r ≤ 929) || decide ((931 ≤ r ∧ r ≤ 937) ∨ (945 ≤ r ∧ r ≤ 969))) = (false || decide ((913 ≤ r ∧ r ≤ 929) ∨ (931 ≤ r ∧ r ≤ 937) ∨ (945 ≤ r ∧ r ≤ 969))) by rw [Bool.eq_iff_iff]; simp; omega] at this
    · have := zcs r false
      rwa [show (false || decide ((931 ≤ r ∧ r ≤ 937) ∨ (945 ≤ r ∧ r ≤ 969))) = (false || decide ((913 ≤ r ∧ r ≤ 929) ∨ (931 ≤ r ∧ r ≤ 937) ∨ (945 ≤ r ∧ r ≤ 969))) by rw [Bool.eq_iff_iff]; simp; omega] at this
  · rw [Bool.true_or]; exact Ev.step (fun k => by rw [glyph_Start.j1]) (Ev.cond rfl (Ev.fin rfl))
theorem zcm (r : Int) (b : Bool) : Ev (fun k => glyph_Start.j0 k r b) (b || decide ((97 ≤ r ∧ r ≤ 122) ∨ r = 95 ∨ (913 ≤ r ∧ r ≤ 929) ∨ (931 ≤ r ∧ r ≤ 937) ∨ (945 ≤ r ∧ r ≤ 969))) := by
  cases b
  · refine Ev.step (fun k => by rw [glyph_Start.j0]) (Ev.ncond (by decide) (Ev.ite (fun h => Ev.ite (fun g => ?_) (fun g => ?_)) (fun h => ?_)))
    · have := za4 r (decide (r ≤ 122))
      rwa [show (decide (r ≤ 122) || decide ((913 ≤ r ∧ r ≤ 929) ∨ (931 ≤ r ∧ r ≤ 937) ∨ (945 ≤ r ∧ r ≤ 969))) = (false || decide ((97 ≤ r ∧ r ≤ 122) ∨ r = 95 ∨ (913 ≤ r ∧ r ≤ 929) ∨ (931 ≤ r ∧ r ≤ 937) ∨ (945 ≤ r ∧ r ≤ 969))) by rw [Bool.eq_iff_iff]; simp; omega] at this
    · have := za4 r (r == 95)
      rwa [show ((r == 95) || decide ((913 ≤ r ∧ r ≤ 929) ∨ (931 ≤ r ∧ r ≤ 937) ∨ (945 ≤ r ∧ r ≤ 969))) = (false || decide ((97 ≤ r ∧ r ≤ 122) ∨ r = 95 ∨ (913 ≤ r ∧ r ≤ 929) ∨ (931 ≤ r ∧ r ≤ 937) ∨ (945 ≤ r ∧ r ≤ 969))) by rw [Bool.eq_iff_iff]; simp; omega] at this
    · have := za4 r (r == 95)
      rwa [show ((r == 95) || decide ((913 ≤ r ∧ r ≤ 929) ∨ (931 ≤ r ∧ r ≤ 937) ∨ (945 ≤ r ∧ r ≤ 969))) = (false || decide ((97 ≤ r ∧ r ≤ 122) ∨ r = 95 ∨ (913 ≤ r ∧ r ≤ 929) ∨ (931 ≤ r ∧ r ≤ 937) ∨ (945 ≤ r ∧ r ≤ 969))) by rw [Bool.eq_iff_iff]; simp; omega] at this
  · have := za4 r true
    exact Ev.step (fun k => by rw [glyph_Start.j0]) (Ev.cond rfl this)
theorem zck (r : Int) : Ev (fun k => glyph_Start.f k r) (zab r) := by
  refine Ev.congr (fun k => by rw [glyph_Start.f]) (Ev.ite (fun h => ?_) (fun h => ?_))
  · have := zcm r (decide (r ≤ 90))
    rwa [show (decide (r ≤ 90) || decide ((97 ≤ r ∧ r ≤ 122) ∨ r = 95 ∨ (913 ≤ r ∧ r ≤ 929) ∨ (931 ≤ r ∧ r ≤ 937) ∨ (945 ≤ r ∧ r ≤ 969))) = zab r by rw [zab, Bool.eq_iff_iff]; simp; omega] at this
  · have := zcm r false
    rwa [show (false || decide ((97 ≤ r ∧ r ≤ 122) ∨ r = 95 ∨ (913 ≤ r ∧ r ≤ 929) ∨ (931 ≤ r ∧ r ≤ 937) ∨ (945 ≤ r ∧ r ≤ 969))) = zab r by rw [zab, Bool.eq_iff_iff]; simp; omega] at this
theorem ze0 (r : Int) : Ev (fun k => glyph_Rest.f k r) (zaq r) := by
  refine Ev.congr (fun k => by rw [glyph_Rest.f]) (Ev.bind (zck r) ?_)
  rw [zaq]
  cases zab r
  · refine Ev.ncond (by decide) (Ev.ite (fun h => Ev.ite (fun g => Ev.fin ?_) (fun g => Ev.ite (fun z => Ev.fin ?_) (fun z => Ev.ite (fun y => Ev.fin ?_) (fun y => Ev.fin ?_)))) (fun h => Ev.ite (fun z => Ev.fin ?_) (fun z => Ev.ite (fun y => Ev.fin ?_) (fun y => Ev.fin ?_)))) <;> rw [Bool.false_or, Bool.eq_iff_iff] <;> simp <;> omega
  · exact Ev.cond rfl (Ev.fin rfl)
def resB (s : ByteArray) : Bool := decide (s.toList ∈ [[97, 110, 100], [111, 114], [110, 111, 116], [101, 120], [97, 108, 108], [109, 111, 100], [116, 114, 117, 101], [102, 97, 108, 115, 101]])
theorem res_eq (s : ByteArray) : glyph_Reserved.f s = some (resB s) := by
  unfold glyph_Reserved.f resB
  simp only [List.mem_cons, List.not_mem_nil, or_false]
  repeat' split
  all_goals simp_all
theorem zb1 (s : ByteArray) (pos : Nat) (h : pos < s.size) : 1 ≤ (Utf8.decode s pos).2 := by
  by_cases ha : (s[pos]'h).toNat < 128
  · rw [decode_ascii s pos h ha]
    exact Nat.le_refl _
  · exact (decode_high s pos h (by omega)).2
def zas : Nat → ByteArray → Nat → Nat → Bool
  | 0, s, _, n => decide (1 ≤ n ∧ n ≤ 16) && !resB s
  | m + 1, s, p, n =>
    if p < s.size then (if (n = 0 → zab ((Utf8.decode s p).1 : Int) = true) ∧ zaq ((Utf8.decode s p).1 : Int) = true then zas m s (p + (Utf8.decode s p).2) (n + 1) else false)
    else decide (1 ≤ n ∧ n ≤ 16) && !resB s
def zdc (s : ByteArray) : Bool := zas s.size s 0 0
theorem zce (s : ByteArray) (n : Nat) : Ev (fun k => if (n : Int) > 0 then (if (n : Int) ≤ 16 then (glyph_Reserved.f s).bind fun t => some (!t) else some false) else some false) (decide (1 ≤ n ∧ n ≤ 16) && !resB s) := by
  by_cases h1 : 1 ≤ n
  · by_cases h2 : n ≤ 16
    · refine Ev.cond (by omega) (Ev.cond (by omega) ?_)
      rw [decide_eq_true ⟨h1, h2⟩, Bool.true_and]
      exact Ev.ret (res_eq s) (Ev.fin rfl)
    · rw [decide_eq_false (fun e => h2 e.2)]
      exact Ev.cond (by omega) (Ev.ncond (by omega) (Ev.fin rfl))
  · rw [decide_eq_false (fun e => h1 e.1)]
    exact Ev.ncond (by omega) (Ev.fin rfl)
theorem zey (s : ByteArray) (hs : s.size ≤ 9223372036854775807) : Ev (fun k => glyph_Name.f k s) (zdc s) := by
  have key : ∀ (m p n : Nat), s.size ≤ p + m → n ≤ p → (p = 0 ↔ n = 0) → Ev (fun k => glyph_Name.l0 k s p (n : Int)) (zas m s p n) := by
    intro m
    induction m with
    | zero =>
      intro p n hp hn _
      exact Ev.step (fun k => by rw [glyph_Name.l0]) (Ev.ncond (by omega) (zce s n))
    | succ m ih =>
      intro p n hp hn hz
      rw [zas]
      by_cases c : p < s.size
      · rw [if_pos c]
        have hw := zb1 s p c
        refine Ev.step (fun k => by rw [glyph_Name.l0]) (Ev.cond c ?_)
        have st : Ev (fun k => if p = 0 then glyph_Start.f k ((Utf8.decode s p).1 : Int) else some true) (decide (n = 0 → zab ((Utf8.decode s p).1 : Int) = true)) := by
          refine Ev.ite (fun h => ?_) (fun h => Ev.fin ?_)
          · have n0 := hz.1 h
            rw [show decide (n = 0 → zab ((Utf8.decode s p).1 : Int) = true) = zab ((Utf8.decode s p).1 : Int) by rw [Bool.eq_iff_iff]; simp [n0]]
            exact zck _
          · have n0 : ¬ n = 0 := fun e => h (hz.2 e)
            exact (decide_eq_true (fun e => absurd e n0)).symm
        refine Ev.bind st (Ev.ite (fun h => Ev.bind (ze0 _) (Ev.ite (fun g => ?_) (fun g => Ev.fin ?_))) (fun h => Ev.fin ?_))
        · rw [if_pos ⟨of_decide_eq_true h, g⟩, w64 (by omega) (by omega)]
          exact ih (p + (Utf8.decode s p).2) (n + 1) (by omega) (by omega) (by omega)
        · rw [if_neg (fun e => g e.2)]
        · rw [if_neg (fun e => h (decide_eq_true e.1))]
      · rw [if_neg c]
        exact Ev.step (fun k => by rw [glyph_Name.l0]) (Ev.ncond c (zce s n))
  exact key s.size 0 0 (by omega) (by omega) (by omega)
def zaw (ns : List ByteArray) : Nat → Nat → Bool
  | 0, _ => true
  | m + 1, i => zdc (rdOf ByteArray.empty ns (i : Int)) && ((decide (i = 0) || Op.bytesLess (rdOf ByteArray.empty ns ((i - 1 : Nat) : Int)).toList (rdOf ByteArray.empty ns (i : Int)).toList) && zaw ns m (i + 1))
def za9 (ns : List ByteArray) : Bool := zaw ns ns.length 0
theorem zch (ns : List ByteArray) (hn : ns.length ≤ 9000000000000000000) (hs : ∀ x ∈ ns, x.size ≤ 9223372036854775807) : Ev (fun k => glyph_Rises.f k ns) (za9 ns) := by
  refine Ev.congr (fun k => by rw [glyph_Rises.f]) ?_
  have key : ∀ (m i : Nat), i + m = ns.length → Ev (fun k => glyph_Rises.l0 k ns ns (ns.length : Int) (i : Int)) (zaw ns m i) := by
    intro m
    induction m with
    | zero =>
      intro i hi
      refine Ev.step (fun k => by rw [glyph_Rises.l0]) (Ev.ncond (by omega) ?_)
      exact Ev.fin rfl
    | succ m ih =>
      intro i hi
      rw [zaw]
      have sz : (rdOf ByteArray.empty ns (i : Int)).size ≤ 9223372036854775807 := by rw [za2 _ ns (show i < ns.length by omega)]; exact hs _ (List.getElem_mem _)
      refine Ev.step (fun k => by rw [glyph_Rises.l0]) (Ev.cond (by omega) (Ev.cond (by omega) (Ev.cond (by omega) (Ev.bind (zey _ sz) ?_))))
      refine Ev.ite (fun a => ?_) (fun a => Ev.fin ?_)
      · rw [a, Bool.true_and]
        have nx := ih (i + 1) (by omega)
        refine Ev.ite (fun b => ?_) (fun b => ?_)
        · rw [w64 (x := (i : Int) - 1) (by omega) (by omega), w64 (x := (i : Int) + 1) (by omega) (by omega), show (i : Int) - 1 = ((i - 1 : Nat) : Int) by omega, decide_eq_false (show ¬ i = 0 by omega), Bool.false_or]
          refine Ev.cond (by omega) (Ev.cond (by omega) (Ev.ite (fun c => ?_) (fun c => Ev.fin ?_)))
          · rw [c, Bool.true_and]; exact nx
          · rw [Bool.not_eq_true] at c; rw [c, Bool.false_and]
        · rw [decide_eq_true (show i = 0 by omega), Bool.true_or, Bool.true_and, w64 (by omega) (by omega)]
          exact nx
      · rw [Bool.not_eq_true] at a; rw [a, Bool.false_and]
  exact key ns.length 0 (by omega)
end Go.Proofs.Ythgoonohpfoagaa.Pure
namespace Go.Proofs.Ythgoonohpfoagaa.Pure
open Go.RowKit Go.Proofs.YthgoonohpfoagaaW.PrintWords Go.Proofs.YthgoonohpfoagaaW.PrintLast Go.Proofs.YthgoonohpfoagaaW.PrintMore Go.Proofs.Ythgoonohpfoagaa.X
set_option linter.unusedVariables false
section
variable {a : List Int} {j : Nat}
end
def SZ (ns : List ByteArray) : Prop := ∀ x ∈ ns, x.size ≤ 9223372036854775807
def RZ (nx : List (List Int)) : Prop := ∀ r ∈ nx, r.length ≤ 9000000000000000000
structure Fr (ns : List ByteArray) (n : Nat) : Prop where
  tr : ns.length ≤ 6
  n1 : 1 ≤ n
  n2 : n ≤ 256
  ri : za9 ns = true
section
variable {ns : List ByteArray} {n : Nat}
theorem zdd (hs : SZ ns) (f : Fr ns n) : Ev (fun k => table_tracks.f k ns (n : Int)) true := by
  have := f.tr; have := f.n1; have := f.n2
  refine Ev.congr (fun k => by rw [table_tracks.f]) (Ev.cond (by omega) (Ev.cond (by omega) (Ev.cond (by omega) (Ev.bind (zch ns (by omega) hs) (Ev.fin f.ri)))))
theorem zdo {r : List Int} {n e : Int} {j : Nat} {f : Nat → Option Int} (hr : r.length ≤ 9000000000000000000) (hnext : (r.length = 2 ^ j ∧ ∀ x ∈ r, 0 ≤ x ∧ x < n) → Ev f e) (hbad : ¬ (r.length = 2 ^ j ∧ ∀ x ∈ r, 0 ≤ x ∧ x < n) → e = 3) :
    Ev (fun k => if (r.length : Int) = ((2 ^ j : Nat) : Int) then ((slices_Min_int_int.f k r).bind fun t113 => (if t113 < 0 then (some 3) else ((slices_Max_int_int.f k r).bind fun t114 => (if t114 ≥ n then (some 3) else f k)))) else (some 3)) e := by
  refine Ev.ite (fun a => ?_) (fun a => Ev.fin (hbad (fun h => a (by rw [h.1]))).symm)
  have al : r.length = 2 ^ j := by omega
  have h1 : 1 ≤ r.length := by have := Nat.two_pow_pos j; omega
  obtain ⟨x, hx, hxs⟩ := min_ev r h1 hr
  obtain ⟨y, hy, hys⟩ := max_ev r h1 hr
  refine Ev.bind hx (Ev.ite (fun b => Ev.fin (hbad (fun h => ?_)).symm) (fun b => Ev.bind hy (Ev.ite (fun c => Ev.fin (hbad (fun h => ?_)).symm) (fun c => hnext ⟨al, fun z hz => ⟨(hxs 0).1 (by omega) z hz, (hys n).1 (by omega) z hz⟩⟩))))
  · have := (hxs 0).2 (fun z hz => (h.2 z hz).1); omega
  · have := (hys n).2 (fun z hz => (h.2 z hz).2); omega
structure DOk (ns : List ByteArray) (ac : List Bool) (nx : List (List Int)) : Prop where
  fr : Fr ns ac.length
  ln : nx.length = ac.length
  rows : ∀ r ∈ nx, r.length = 2 ^ ns.length ∧ ∀ x ∈ r, 0 ≤ x ∧ x < (ac.length : Int)
theorem shl_tr {ns : List ByteArray} (h : ns.length ≤ 6) : shl .i64 1 (ns.length : Int) = ((2 ^ ns.length : Nat) : Int) := zeo ⟨ns.length, by omega⟩
variable {ac : List Bool} {nx : List (List Int)}
theorem zed (hs : SZ ns) (hr : RZ nx) (d : DOk ns ac nx) : Ev (fun k => table_Right.f k ns ac nx) 0 := by
  have n2 := d.fr.n2
  have ln := d.ln
  refine Ev.congr (fun k => by rw [table_Right.f]) (Ev.bind (zdd hs d.fr) (Ev.cond rfl ?_))
  rw [show ((nx.length : Int) != (ac.length : Int)) = false by simp [d.ln]]
  refine Ev.step (fun k => by rw [table_Right.j0]) (Ev.ncond (by decide) ?_)
  have key : ∀ (m i : Nat), i + m = nx.length → Ev (fun k => table_Right.l0 k (ac.length : Int) nx (nx.length : Int) (i : Int) ns ac nx) 0 := by
    intro m
    induction m with
    | zero => intro i hi; exact Ev.step (fun k => by rw [table_Right.l0]) (Ev.ncond (by omega) (Ev.fin rfl))
    | succ m ih =>
      intro i hi
      refine Ev.step (fun k => by rw [table_Right.l0]) (Ev.cond (by omega) (Ev.cond (by omega) (Ev.cond (by omega) ?_)))
      rw [zcx nx (show i < nx.length by omega), shl_tr d.fr.tr, w64 (by omega) (by omega)]
      have mem : nx[i]'(by omega) ∈ nx := List.getElem_mem _
      exact zdo (hr _ mem) (fun _ => ih (i + 1) (by omega)) (fun h => absurd (d.rows _ mem) h)
  exact key nx.length 0 (by omega)
end
section
variable {ns : List ByteArray} {ac : List Bool} {nx : List (List Int)}
end
end Go.Proofs.Ythgoonohpfoagaa.Pure
namespace Go.Proofs.Ythgoonohpfoagaa.Pure
open Go.RowKit Go.Proofs.YthgoonohpfoagaaW.PrintWords Go.Proofs.YthgoonohpfoagaaW.PrintLast Go.Proofs.YthgoonohpfoagaaW.PrintMore Go.Proofs.Ythgoonohpfoagaa.X
set_option linter.unusedVariables false
def za0 (r : Int) : List Int → Bool
  | a :: b :: t => decide (a ≤ r ∧ r ≤ b) || za0 r t
  | _ => false
theorem zdv (r : Int) (l : List Int) (hl : l.length ≤ 1000) : ∀ (m i : Nat), i + 2 * m = l.length → Ev (fun k => tabardref04_within.l0 k r l (i : Int)) (za0 r (l.drop i)) := by
  intro m
  induction m with
  | zero =>
    intro i hi
    rw [List.drop_eq_nil_of_le (by omega)]
    refine Ev.step (fun k => by rw [tabardref04_within.l0]) (Ev.ncond (by rw [w64 (by omega) (by omega)]; omega) ?_)
    exact Ev.fin rfl
  | succ m ih =>
    intro i hi
    have h1 : i < l.length := by omega
    have h2 : i + 1 < l.length := by omega
    have q := ih (i + 2) (by omega)
    rw [List.drop_eq_getElem_cons h1, List.drop_eq_getElem_cons h2, za0]
    refine Ev.step (fun k => by rw [tabardref04_within.l0]) ?_
    rw [w64 (x := (i : Int) + 1) (by omega) (by omega), w64 (x := (i : Int) + 2) (by omega) (by omega), show (i : Int) + 1 = ((i + 1 : Nat) : Int) by omega, zcl l h1, zcl l h2]
    refine Ev.cond (by omega) (Ev.cond (by omega) (Ev.cond (by omega) (Ev.ite (fun a => Ev.cond (by omega) (Ev.ite (fun b => Ev.fin ?_) (fun b => ?_))) (fun a => ?_))))
    · rw [decide_eq_true (show l[i] ≤ r ∧ r ≤ l[i + 1] from ⟨a, b⟩), Bool.true_or]
    · rw [decide_eq_false (show ¬ (l[i] ≤ r ∧ r ≤ l[i + 1]) from fun z => b z.2), Bool.false_or]; exact q
    · rw [decide_eq_false (show ¬ (l[i] ≤ r ∧ r ≤ l[i + 1]) from fun z => a z.1), Bool.false_or]; exact q
theorem zcu (r : Int) (l : List Int) (m : Nat) (hl : l.length ≤ 1000) (hm : 0 + 2 * m = l.length) : Ev (fun k => tabardref04_within.f k r l) (za0 r l) := by
  have := zdv r l hl m 0 hm
  rw [List.drop_zero] at this
  exact Ev.congr (fun k => by rw [tabardref04_within.f]; rfl) this
theorem zb4 (r : Int) : Ev (fun k => tabardref04_Start.f k r) (zab r) := by
  refine Ev.congr (fun k => by rw [tabardref04_Start.f]) (Ev.bind (zcu r [65, 90, 97, 122, 95, 95, 913, 929, 931, 937, 945, 969] 6 (by decide) (by decide)) (Ev.fin ?_))
  simp only [za0, zab]
  rw [Bool.eq_iff_iff]; simp; omega
theorem zei (r : Int) : Ev (fun k => tabardref04_Rest.f k r) (zaq r) := by
  refine Ev.congr (fun k => by rw [tabardref04_Rest.f]) (Ev.bind (zb4 r) ?_)
  rw [zaq]
  cases zab r
  · refine Ev.ncond (by decide) (Ev.bind (zcu r [48, 57, 8242, 8242, 8320, 8329] 3 (by decide) (by decide)) (Ev.fin ?_))
    simp only [za0]
    rw [Bool.eq_iff_iff]; simp; omega
  · exact Ev.cond rfl (Ev.fin rfl)
theorem zer (s : ByteArray) : Ev (fun k => tabardref04_Reserved.f k s) (resB s) := by
  refine Ev.congr (fun k => by rw [tabardref04_Reserved.f]) ?_
  have key : ∀ (L : List ByteArray) (hL : L.length ≤ 100) (m i : Nat), i + m = L.length → Ev (fun k => tabardref04_Reserved.l0 k s L (i : Int)) (decide (∃ x ∈ L.drop i, x.toList = s.toList)) := by
    intro L hL m
    induction m with
    | zero =>
      intro i hi
      rw [List.drop_eq_nil_of_le (by omega)]
      refine Ev.step (fun k => by rw [tabardref04_Reserved.l0]) (Ev.ncond (by omega) (Ev.fin ?_))
      simp
    | succ m ih =>
      intro i hi
      have h1 : i < L.length := by omega
      rw [List.drop_eq_getElem_cons h1]
      refine Ev.step (fun k => by rw [tabardref04_Reserved.l0]) (Ev.cond (by omega) (Ev.cond (by omega) ?_))
      rw [za2 _ L h1, w64 (by omega) (by omega)]
      refine Ev.ite (fun c => Ev.fin ?_) (fun c => ?_)
      · exact (decide_eq_true ⟨_, List.mem_cons_self .., c⟩).symm
      · have q := ih (i + 1) (by omega)
        rw [decide_eq_decide.2 (show (∃ x ∈ L[i] :: L.drop (i + 1), x.toList = s.toList) ↔ (∃ x ∈ L.drop (i + 1), x.toList = s.toList) from ⟨fun ⟨x, hx, e⟩ => by
          rcases List.mem_cons.1 hx with rfl | h
          · exact absurd e c
          · exact ⟨x, h, e⟩, fun ⟨x, hx, e⟩ => ⟨x, List.mem_cons_of_mem _ hx, e⟩⟩)]
        exact q
  have := key ([(⟨#[97, 110, 100]⟩ : ByteArray), (⟨#[111, 114]⟩ : ByteArray), (⟨#[110, 111, 116]⟩ : ByteArray), (⟨#[101, 120]⟩ : ByteArray), (⟨#[97, 108, 108]⟩ : ByteArray), (⟨#[109, 111, 100]⟩ : ByteArray), (⟨#[116, 114, 117, 101]⟩ : ByteArray), (⟨#[102, 97, 108, 115, 101]⟩ : ByteArray)] : List ByteArray) (by simp) 8 0 (by simp)
  rw [show resB s = decide (∃ x ∈ List.drop 0 ([(⟨#[97, 110, 100]⟩ : ByteArray), (⟨#[111, 114]⟩ : ByteArray), (⟨#[110, 111, 116]⟩ : ByteArray), (⟨#[101, 120]⟩ : ByteArray), (⟨#[97, 108, 108]⟩ : ByteArray), (⟨#[109, 111, 100]⟩ : ByteArray), (⟨#[116, 114, 117, 101]⟩ : ByteArray), (⟨#[102, 97, 108, 115, 101]⟩ : ByteArray)] : List ByteArray), x.toList = s.toList) from by
    rw [resB]
    apply decide_eq_decide.2
    simp only [List.drop_zero, List.mem_cons, List.not_mem_nil, or_false, exists_eq_or_imp, exists_eq_left, ByteArray.toList_eq]
    simp only [eq_comm]]
  exact this
end Go.Proofs.Ythgoonohpfoagaa.Pure
namespace Go.Proofs.Ythgoonohpfoagaa.Pure
open Go.RowKit Go.Proofs.YthgoonohpfoagaaW.PrintWords Go.Proofs.YthgoonohpfoagaaW.PrintLast Go.Proofs.YthgoonohpfoagaaW.PrintMore Go.Proofs.Ythgoonohpfoagaa.X
set_option linter.unusedVariables false
theorem zdw (s : ByteArray) {q : Nat} (h : q < s.size) : bt s (q : Int) = ((s.get! q).toNat : Int) := by
  have e := bt_at s (q : Int) (by simpa using h)
  rw [← e]
  simp only [Int.toNat_natCast]
  rw [← get_at s q h]; rfl
theorem zad (s : ByteArray) (q : Nat) : (s.get! q).toNat < 256 := (s.get! q).toNat_lt
def Fits (d : Nat × Nat) (r : Int × Int × Bool) : Prop := (r.2.2 = true ∧ r.1 = (d.1 : Int) ∧ r.2.1 = (d.2 : Int)) ∨ (r.2.2 = false ∧ d = (65533, 1))
section
variable {s : ByteArray} {p : Nat}
theorem zbi {X w L : Int} {i : Int} (hi : ¬ i < w) : ∃ r, Ev (fun k => tabardref04_Read.l0 k s (p : Int) X w L i) r ∧ ((r = (X, w, true) ∧ L ≤ X ∧ X ≤ 1114111 ∧ ¬ (55296 ≤ X ∧ X ≤ 57343)) ∨ (r = (65533, 1, false) ∧ ¬ (L ≤ X ∧ X ≤ 1114111 ∧ ¬ (55296 ≤ X ∧ X ≤ 57343)))) := by
  by_cases h1 : X < L
  · exact ⟨_, Ev.step (fun k => by rw [tabardref04_Read.l0]) (Ev.ncond hi (Ev.cond h1 (Ev.fin rfl))), Or.inr ⟨rfl, by omega⟩⟩
  by_cases h2 : X > 1114111
  · exact ⟨_, Ev.step (fun k => by rw [tabardref04_Read.l0]) (Ev.ncond hi (Ev.ncond h1 (Ev.cond h2 (Ev.fin rfl)))), Or.inr ⟨rfl, by omega⟩⟩
  by_cases h3 : X ≥ 55296
  · by_cases h4 : X ≤ 57343
    · exact ⟨_, Ev.step (fun k => by rw [tabardref04_Read.l0]) (Ev.ncond hi (Ev.ncond h1 (Ev.ncond h2 (Ev.cond h3 (Ev.cond h4 (Ev.fin rfl)))))), Or.inr ⟨rfl, by omega⟩⟩
    · exact ⟨_, Ev.step (fun k => by rw [tabardref04_Read.l0]) (Ev.ncond hi (Ev.ncond h1 (Ev.ncond h2 (Ev.cond h3 (Ev.ncond h4 (Ev.fin rfl)))))), Or.inl ⟨rfl, by omega⟩⟩
  · exact ⟨_, Ev.step (fun k => by rw [tabardref04_Read.l0]) (Ev.ncond hi (Ev.ncond h1 (Ev.ncond h2 (Ev.ncond h3 (Ev.fin rfl))))), Or.inl ⟨rfl, by omega⟩⟩
theorem zah (hs : s.size ≤ 9223372036854775807) {X w L : Int} {i : Nat} (hi : (i : Int) < w) (hX : 0 ≤ X) (hX2 : X ≤ 20000000) (h : p + i < s.size) :
    (¬ (128 ≤ (s.get! (p + i)).toNat ∧ (s.get! (p + i)).toNat ≤ 191) ∧ Ev (fun k => tabardref04_Read.l0 k s (p : Int) X w L (i : Int)) (65533, 1, false)) ∨
    ((128 ≤ (s.get! (p + i)).toNat ∧ (s.get! (p + i)).toNat ≤ 191) ∧ ∀ r, Ev (fun k => tabardref04_Read.l0 k s (p : Int) (X * 64 + ((s.get! (p + i)).toNat : Int) - 128) w L ((i + 1 : Nat) : Int)) r → Ev (fun k => tabardref04_Read.l0 k s (p : Int) X w L (i : Int)) r) := by
  have b := zad s (p + i)
  have e : wrap64 ((p : Int) + (i : Int)) = ((p + i : Nat) : Int) := by rw [w64 (by omega) (by omega)]; omega
  have e2 : wrap64 (bt s ((p + i : Nat) : Int)) = ((s.get! (p + i)).toNat : Int) := by rw [zdw s h, w64 (by omega) (by omega)]
  by_cases h1 : (s.get! (p + i)).toNat < 128
  · refine Or.inl ⟨by omega, Ev.step (fun k => by rw [tabardref04_Read.l0]) (Ev.cond hi ?_)⟩
    rw [e, e2]
    exact Ev.cond (by omega) (Ev.cond (by omega) (Ev.cond (by omega) (Ev.fin rfl)))
  by_cases h2 : (s.get! (p + i)).toNat > 191
  · refine Or.inl ⟨by omega, Ev.step (fun k => by rw [tabardref04_Read.l0]) (Ev.cond hi ?_)⟩
    rw [e, e2]
    exact Ev.cond (by omega) (Ev.cond (by omega) (Ev.ncond (by omega) (Ev.cond (by omega) (Ev.fin rfl))))
  · refine Or.inr ⟨by omega, fun r hr => Ev.step (fun k => by rw [tabardref04_Read.l0]) (Ev.cond hi ?_)⟩
    rw [e, e2, w64 (x := X * 64) (by omega) (by omega), w64 (x := X * 64 + ((s.get! (p + i)).toNat : Int)) (by omega) (by omega), w64 (x := X * 64 + ((s.get! (p + i)).toNat : Int) - 128) (by omega) (by omega), w64 (x := (i : Int) + 1) (by omega) (by omega)]
    exact Ev.cond (by omega) (Ev.cond (by omega) (Ev.ncond (by omega) (Ev.ncond (by omega) hr)))
theorem zep (hs : s.size ≤ 9223372036854775807) (hp : p < s.size) (h0 : 194 ≤ (s.get! p).toNat ∧ (s.get! p).toNat < 224) :
    ∃ r, Ev (fun k => tabardref04_Read.j2 k s (p : Int) (((s.get! p).toNat : Int) - 192) 2 128) r ∧ Fits (Go.Lib.decodeN (s.size - p) (s.get! p).toNat (s.get! (p + 1)).toNat (s.get! (p + 2)).toNat (s.get! (p + 3)).toNat) r := by
  have g1 := zad s (p + 1); have g2 := zad s (p + 2); have g3 := zad s (p + 3)
  by_cases c : s.size - p < 2
  · refine ⟨_, Ev.step (fun k => by rw [tabardref04_Read.j2]) (Ev.cond (by rw [w64 (by omega) (by omega)]; omega) (Ev.fin rfl)), Or.inr ⟨rfl, ?_⟩⟩
    unfold Go.Lib.decodeN; repeat' split
    all_goals first | (exfalso; omega) | rfl
  · have go : ∀ r, Ev (fun k => tabardref04_Read.l0 k s (p : Int) (((s.get! p).toNat : Int) - 192) 2 128 1) r → Ev (fun k => tabardref04_Read.j2 k s (p : Int) (((s.get! p).toNat : Int) - 192) 2 128) r :=
      by
        intro r h
        refine Ev.step (fun k => by rw [tabardref04_Read.j2]) (Ev.ncond ?_ h)
        rw [w64 (by omega) (by omega)]; omega
    rcases zah (X := ((s.get! p).toNat : Int) - 192) (w := 2) (L := 128) (i := 1) hs (by omega) (by omega) (by omega) (show p + 1 < s.size by omega) with ⟨bad, e⟩ | ⟨ok1, k1⟩
    · refine ⟨_, go _ e, Or.inr ⟨rfl, ?_⟩⟩
      unfold Go.Lib.decodeN; repeat' split
      all_goals first | (exfalso; omega) | rfl
    · obtain ⟨r, hr, hc⟩ := zbi (s := s) (p := p) (X := (((s.get! p).toNat : Int) - 192) * 64 + ((s.get! (p + 1)).toNat : Int) - 128) (w := 2) (L := 128) (i := ((1 + 1 : Nat) : Int)) (by omega)
      refine ⟨r, go _ (k1 r hr), ?_⟩
      rcases hc with ⟨rfl, hc⟩ | ⟨rfl, hc⟩
      · have d : Go.Lib.decodeN (s.size - p) (s.get! p).toNat (s.get! (p + 1)).toNat (s.get! (p + 2)).toNat (s.get! (p + 3)).toNat = ((s.get! p).toNat % 32 * 64 + (s.get! (p + 1)).toNat % 64, 2) := by
          unfold Go.Lib.decodeN; repeat' split
          all_goals first | (exfalso; omega) | rfl
        rw [d]; exact Or.inl ⟨rfl, by simp only []; omega, rfl⟩
      · refine Or.inr ⟨rfl, ?_⟩
        unfold Go.Lib.decodeN; repeat' split
        all_goals first | (exfalso; omega) | rfl
theorem ze4 (hs : s.size ≤ 9223372036854775807) (hp : p < s.size) (h0 : 224 ≤ (s.get! p).toNat ∧ (s.get! p).toNat < 240) :
    ∃ r, Ev (fun k => tabardref04_Read.j2 k s (p : Int) (((s.get! p).toNat : Int) - 224) 3 2048) r ∧ Fits (Go.Lib.decodeN (s.size - p) (s.get! p).toNat (s.get! (p + 1)).toNat (s.get! (p + 2)).toNat (s.get! (p + 3)).toNat) r := by
  have g1 := zad s (p + 1); have g2 := zad s (p + 2); have g3 := zad s (p + 3)
  by_cases c : s.size - p < 3
  · refine ⟨_, Ev.step (fun k => by rw [tabardref04_Read.j2]) (Ev.cond (by rw [w64 (by omega) (by omega)]; omega) (Ev.fin rfl)), Or.inr ⟨rfl, ?_⟩⟩
    unfold Go.Lib.decodeN; repeat' split
    all_goals first | (exfalso; omega) | rfl
  · have go : ∀ r, Ev (fun k => tabardref04_Read.l0 k s (p : Int) (((s.get! p).toNat : Int) - 224) 3 2048 1) r → Ev (fun k => tabardref04_Read.j2 k s (p : Int) (((s.get! p).toNat : Int) - 224) 3 2048) r :=
      by
        intro r h
        refine Ev.step (fun k => by rw [tabardref04_Read.j2]) (Ev.ncond ?_ h)
        rw [w64 (by omega) (by omega)]; omega
    rcases zah (X := ((s.get! p).toNat : Int) - 224) (w := 3) (L := 2048) (i := 1) hs (by omega) (by omega) (by omega) (show p + 1 < s.size by omega) with ⟨bad, e⟩ | ⟨ok1, k1⟩
    · refine ⟨_, go _ e, Or.inr ⟨rfl, ?_⟩⟩
      unfold Go.Lib.decodeN; repeat' split
      all_goals first | (exfalso; omega) | rfl
    rcases zah (X := (((s.get! p).toNat : Int) - 224) * 64 + ((s.get! (p + 1)).toNat : Int) - 128) (w := 3) (L := 2048) (i := 2) hs (by omega) (by omega) (by omega) (show p + 2 < s.size by omega) with ⟨bad, e⟩ | ⟨ok2, k2⟩
    · refine ⟨_, go _ (k1 _ e), Or.inr ⟨rfl, ?_⟩⟩
      unfold Go.Lib.decodeN; repeat' split
      all_goals first | (exfalso; omega) | rfl
    · obtain ⟨r, hr, hc⟩ := zbi (s := s) (p := p) (X := ((((s.get! p).toNat : Int) - 224) * 64 + ((s.get! (p + 1)).toNat : Int) - 128) * 64 + ((s.get! (p + 2)).toNat : Int) - 128) (w := 3) (L := 2048) (i := ((2 + 1 : Nat) : Int)) (by omega)
      refine ⟨r, go _ (k1 _ (k2 r hr)), ?_⟩
      rcases hc with ⟨rfl, hc⟩ | ⟨rfl, hc⟩
      · have d : Go.Lib.decodeN (s.size - p) (s.get! p).toNat (s.get! (p + 1)).toNat (s.get! (p + 2)).toNat (s.get! (p + 3)).toNat = ((s.get! p).toNat % 16 * 4096 + (s.get! (p + 1)).toNat % 64 * 64 + (s.get! (p + 2)).toNat % 64, 3) := by
          unfold Go.Lib.decodeN; repeat' split
          all_goals first | (exfalso; omega) | rfl
        rw [d]; exact Or.inl ⟨rfl, by simp only []; omega, rfl⟩
      · refine Or.inr ⟨rfl, ?_⟩
        unfold Go.Lib.decodeN; repeat' split
        all_goals first | (exfalso; omega) | rfl
theorem zem (hs : s.size ≤ 9223372036854775807) (hp : p < s.size) (h0 : 240 ≤ (s.get! p).toNat ∧ (s.get! p).toNat < 245) :
    ∃ r, Ev (fun k => tabardref04_Read.j2 k s (p : Int) (((s.get! p).toNat : Int) - 240) 4 65536) r ∧ Fits (Go.Lib.decodeN (s.size - p) (s.get! p).toNat (s.get! (p + 1)).toNat (s.get! (p + 2)).toNat (s.get! (p + 3)).toNat) r := by
  have g1 := zad s (p + 1); have g2 := zad s (p + 2); have g3 := zad s (p + 3)
  by_cases c : s.size - p < 4
  · refine ⟨_, Ev.step (fun k => by rw [tabardref04_Read.j2]) (Ev.cond (by rw [w64 (by omega) (by omega)]; omega) (Ev.fin rfl)), Or.inr ⟨rfl, ?_⟩⟩
    unfold Go.Lib.decodeN; repeat' split
    all_goals first | (exfalso; omega) | rfl
  · have go : ∀ r, Ev (fun k => tabardref04_Read.l0 k s (p : Int) (((s.get! p).toNat : Int) - 240) 4 65536 1) r → Ev (fun k => tabardref04_Read.j2 k s (p : Int) (((s.get! p).toNat : Int) - 240) 4 65536) r :=
      by
        intro r h
        refine Ev.step (fun k => by rw [tabardref04_Read.j2]) (Ev.ncond ?_ h)
        rw [w64 (by omega) (by omega)]; omega
    rcases zah (X := ((s.get! p).toNat : Int) - 240) (w := 4) (L := 65536) (i := 1) hs (by omega) (by omega) (by omega) (show p + 1 < s.size by omega) with ⟨bad, e⟩ | ⟨ok1, k1⟩
    · refine ⟨_, go _ e, Or.inr ⟨rfl, ?_⟩⟩
      unfold Go.Lib.decodeN; repeat' split
      all_goals first | (exfalso; omega) | rfl
    rcases zah (X := (((s.get! p).toNat : Int) - 240) * 64 + ((s.get! (p + 1)).toNat : Int) - 128) (w := 4) (L := 65536) (i := 2) hs (by omega) (by omega) (by omega) (show p + 2 < s.size by omega) with ⟨bad, e⟩ | ⟨ok2, k2⟩
    · refine ⟨_, go _ (k1 _ e), Or.inr ⟨rfl, ?_⟩⟩
      unfold Go.Lib.decodeN; repeat' split
      all_goals first | (exfalso; omega) | rfl
    rcases zah (X := ((((s.get! p).toNat : Int) - 240) * 64 + ((s.get! (p + 1)).toNat : Int) - 128) * 64 + ((s.get! (p + 2)).toNat : Int) - 128) (w := 4) (L := 65536) (i := 3) hs (by omega) (by omega) (by omega) (show p + 3 < s.size by omega) with ⟨bad, e⟩ | ⟨ok3, k3⟩
    · refine ⟨_, go _ (k1 _ (k2 _ e)), Or.inr ⟨rfl, ?_⟩⟩
      unfold Go.Lib.decodeN; repeat' split
      all_goals first | (exfalso; omega) | rfl
    · obtain ⟨r, hr, hc⟩ := zbi (s := s) (p := p) (X := (((((s.get! p).toNat : Int) - 240) * 64 + ((s.get! (p + 1)).toNat : Int) - 128) * 64 + ((s.get! (p + 2)).toNat : Int) - 128) * 64 + ((s.get! (p + 3)).toNat : Int) - 128) (w := 4) (L := 65536) (i := ((3 + 1 : Nat) : Int)) (by omega)
      refine ⟨r, go _ (k1 _ (k2 _ (k3 r hr))), ?_⟩
      rcases hc with ⟨rfl, hc⟩ | ⟨rfl, hc⟩
      · have d : Go.Lib.decodeN (s.size - p) (s.get! p).toNat (s.get! (p + 1)).toNat (s.get! (p + 2)).toNat (s.get! (p + 3)).toNat = ((s.get! p).toNat % 8 * 262144 + (s.get! (p + 1)).toNat % 64 * 4096 + (s.get! (p + 2)).toNat % 64 * 64 + (s.get! (p + 3)).toNat % 64, 4) := by
          unfold Go.Lib.decodeN; repeat' split
          all_goals first | (exfalso; omega) | rfl
        rw [d]; exact Or.inl ⟨rfl, by simp only []; omega, rfl⟩
      · refine Or.inr ⟨rfl, ?_⟩
        unfold Go.Lib.decodeN; repeat' split
        all_goals first | (exfalso; omega) | rfl
theorem ze2 (hs : s.size ≤ 9223372036854775807) (hp : p < s.size) : ∃ r, Ev (fun k => tabardref04_Read.f k s (p : Int)) r ∧ Fits (Utf8.decode s p) r := by
  rw [Go.Lib.decode_at]
  have b := zad s p
  have g1 := zad s (p + 1); have g2 := zad s (p + 2); have g3 := zad s (p + 3)
  have e0 : wrap64 (bt s (p : Int)) = ((s.get! p).toNat : Int) := by rw [zdw s hp, w64 (by omega) (by omega)]
  have enter : ∀ r, Ev (fun k => if ((s.get! p).toNat : Int) < 128 then (some (((s.get! p).toNat : Int), (1 : Int), true)) else (if ((s.get! p).toNat : Int) ≥ 194 then (tabardref04_Read.j0 k s (p : Int) ((s.get! p).toNat : Int) (decide (((s.get! p).toNat : Int) < 224))) else (tabardref04_Read.j0 k s (p : Int) ((s.get! p).toNat : Int) false))) r → Ev (fun k => tabardref04_Read.f k s (p : Int)) r := by
    intro r h
    refine Ev.congr (fun k => by rw [tabardref04_Read.f, e0]) (Ev.cond (by omega) (Ev.cond (by omega) h))
  by_cases c0 : (s.get! p).toNat < 128
  · refine ⟨_, enter _ (Ev.cond (by omega) (Ev.fin rfl)), Or.inl ⟨rfl, ?_, ?_⟩⟩ <;> unfold Go.Lib.decodeN <;> rw [if_pos c0]
    rfl
  have w1 : wrap64 (((s.get! p).toNat : Int) - 192) = ((s.get! p).toNat : Int) - 192 := w64 (by omega) (by omega)
  have w2 : wrap64 (((s.get! p).toNat : Int) - 224) = ((s.get! p).toNat : Int) - 224 := w64 (by omega) (by omega)
  have w3 : wrap64 (((s.get! p).toNat : Int) - 240) = ((s.get! p).toNat : Int) - 240 := w64 (by omega) (by omega)
  by_cases c1 : 194 ≤ (s.get! p).toNat ∧ (s.get! p).toNat < 224
  · obtain ⟨r, hr, hf⟩ := zep hs hp c1
    refine ⟨r, enter _ (Ev.ncond (by omega) (Ev.cond (by omega) ?_)), hf⟩
    rw [decide_eq_true (show ((s.get! p).toNat : Int) < 224 by omega)]
    refine Ev.step (fun k => by rw [tabardref04_Read.j0, w1]) (Ev.cond rfl hr)
  have j1 : ∀ r, (¬ ((s.get! p).toNat : Int) < 224 ∨ ¬ ((s.get! p).toNat : Int) ≥ 194) → Ev (fun k => if ((s.get! p).toNat : Int) ≥ 224 then tabardref04_Read.j1 k s (p : Int) ((s.get! p).toNat : Int) (decide (((s.get! p).toNat : Int) < 240)) else tabardref04_Read.j1 k s (p : Int) ((s.get! p).toNat : Int) false) r → Ev (fun k => tabardref04_Read.f k s (p : Int)) r := by
    intro r hc h
    refine enter _ (Ev.ncond (by omega) (Ev.ite (fun g => ?_) (fun g => ?_)))
    · rw [decide_eq_false (show ¬ ((s.get! p).toNat : Int) < 224 by omega)]
      exact Ev.step (fun k => by rw [tabardref04_Read.j0]) (Ev.ncond (by decide) h)
    · exact Ev.step (fun k => by rw [tabardref04_Read.j0]) (Ev.ncond (by decide) h)
  by_cases c2 : 224 ≤ (s.get! p).toNat ∧ (s.get! p).toNat < 240
  · obtain ⟨r, hr, hf⟩ := ze4 hs hp c2
    refine ⟨r, j1 _ (by omega) (Ev.cond (by omega) ?_), hf⟩
    rw [decide_eq_true (show ((s.get! p).toNat : Int) < 240 by omega)]
    refine Ev.step (fun k => by rw [tabardref04_Read.j1, w2]) (Ev.cond rfl hr)
  by_cases c3 : 240 ≤ (s.get! p).toNat ∧ (s.get! p).toNat < 245
  · obtain ⟨r, hr, hf⟩ := zem hs hp c3
    refine ⟨r, j1 _ (by omega) (Ev.cond (by omega) ?_), hf⟩
    rw [decide_eq_false (show ¬ ((s.get! p).toNat : Int) < 240 by omega)]
    refine Ev.step (fun k => by rw [tabardref04_Read.j1, w3]) (Ev.ncond (by decide) (Ev.cond (by omega) (Ev.cond (by omega) hr)))
  · refine ⟨(65533, 1, false), j1 _ (by omega) (Ev.ite (fun g => ?_) (fun g => ?_)), Or.inr ⟨rfl, ?_⟩⟩
    · rw [decide_eq_false (show ¬ ((s.get! p).toNat : Int) < 240 by omega)]
      exact Ev.step (fun k => by rw [tabardref04_Read.j1]) (Ev.ncond (by decide) (Ev.cond (by omega) (Ev.ncond (by omega) (Ev.fin rfl))))
    · exact Ev.step (fun k => by rw [tabardref04_Read.j1]) (Ev.ncond (by decide) (Ev.ncond (by omega) (Ev.fin rfl)))
    · unfold Go.Lib.decodeN; repeat' split
      all_goals first | (exfalso; omega) | rfl
end
end Go.Proofs.Ythgoonohpfoagaa.Pure
namespace Go.Proofs.Ythgoonohpfoagaa.Pure
open Go.RowKit Go.Proofs.YthgoonohpfoagaaW.PrintWords Go.Proofs.YthgoonohpfoagaaW.PrintLast Go.Proofs.YthgoonohpfoagaaW.PrintMore Go.Proofs.Ythgoonohpfoagaa.X
set_option linter.unusedVariables false
theorem zb0 (s : ByteArray) (n : Nat) : Ev (fun k => if (n : Int) ≥ 1 then (if (n : Int) ≤ 16 then ((tabardref04_Reserved.f k s).bind fun t => some (!t)) else some false) else some false) (decide (1 ≤ n ∧ n ≤ 16) && !resB s) := by
  by_cases h1 : 1 ≤ n
  · by_cases h2 : n ≤ 16
    · refine Ev.cond (by omega) (Ev.cond (by omega) ?_)
      rw [decide_eq_true ⟨h1, h2⟩, Bool.true_and]
      exact Ev.bind (zer s) (Ev.fin rfl)
    · rw [decide_eq_false (fun e => h2 e.2)]
      exact Ev.cond (by omega) (Ev.ncond (by omega) (Ev.fin rfl))
  · rw [decide_eq_false (fun e => h1 e.1)]
    exact Ev.ncond (by omega) (Ev.fin rfl)
theorem zew (n a b c d : Nat) (h : 1 ≤ n) : (Go.Lib.decodeN n a b c d).2 ≤ n := by
  unfold Go.Lib.decodeN; repeat' split
  all_goals (simp only []; omega)
theorem dec_in (s : ByteArray) (p : Nat) (h : p < s.size) : p + (Utf8.decode s p).2 ≤ s.size := by
  rw [Go.Lib.decode_at]
  have := zew (s.size - p) (s.get! p).toNat (s.get! (p + 1)).toNat (s.get! (p + 2)).toNat (s.get! (p + 3)).toNat (by omega)
  omega
theorem zeh : zaq ((65533 : Nat) : Int) = false := by decide +kernel
theorem zek (s : ByteArray) (hs : s.size ≤ 9223372036854775807) : Ev (fun k => tabardref04_Name.f k s) (zdc s) := by
  have key : ∀ (m p n : Nat), s.size ≤ p + m → p ≤ s.size → n ≤ p → Ev (fun k => tabardref04_Name.l0 k s (n : Int) (p : Int)) (zas m s p n) := by
    intro m
    induction m with
    | zero =>
      intro p n hp _ hn
      exact Ev.step (fun k => by rw [tabardref04_Name.l0]) (Ev.ncond (by omega) (zb0 s n))
    | succ m ih =>
      intro p n hp hp2 hn
      rw [zas]
      by_cases c : p < s.size
      · rw [if_pos c]
        have hw := zb1 s p c
        obtain ⟨r, hr, hf⟩ := ze2 hs c
        refine Ev.step (fun k => by rw [tabardref04_Name.l0]) (Ev.cond (by omega) (Ev.bind hr ?_))
        rcases hf with ⟨f1, f2, f3⟩ | ⟨f1, f2⟩
        · have hb : p + (Utf8.decode s p).2 ≤ s.size := dec_in s p c
          rw [f2, f3]
          refine Ev.cond f1 ?_
          have go : zaq ((Utf8.decode s p).1 : Int) = true → Ev (fun k => tabardref04_Name.l0 k s (wrap64 ((n : Int) + 1)) (wrap64 ((p : Int) + ((Utf8.decode s p).2 : Int)))) (zas m s (p + (Utf8.decode s p).2) (n + 1)) := by
            intro _
            rw [w64 (x := (n : Int) + 1) (by omega) (by omega), w64 (x := (p : Int) + ((Utf8.decode s p).2 : Int)) (by omega) (by omega)]
            have := ih (p + (Utf8.decode s p).2) (n + 1) (by omega) hb (by omega)
            rwa [Int.natCast_add, Int.natCast_add] at this
          have tail : (n = 0 → zab ((Utf8.decode s p).1 : Int) = true) → Ev (fun k => (tabardref04_Rest.f k ((Utf8.decode s p).1 : Int)).bind fun t => (if t = true then (tabardref04_Name.l0 k s (wrap64 ((n : Int) + 1)) (wrap64 ((p : Int) + ((Utf8.decode s p).2 : Int)))) else (some false))) (if (n = 0 → zab ((Utf8.decode s p).1 : Int) = true) ∧ zaq ((Utf8.decode s p).1 : Int) = true then zas m s (p + (Utf8.decode s p).2) (n + 1) else false) := by
            intro h
            refine Ev.bind (zei _) (Ev.ite (fun g => ?_) (fun g => Ev.fin ?_))
            · rw [if_pos ⟨h, g⟩]; exact go g
            · rw [if_neg (fun e => g e.2)]
          refine Ev.ite (fun z => Ev.bind (zb4 _) (Ev.ite (fun h => tail (fun _ => h)) (fun h => Ev.fin ?_))) (fun z => tail (fun e => absurd (show (n : Int) = 0 by omega) z))
          rw [if_neg (fun e => h (e.1 (by omega)))]
        · rw [if_neg (fun e => by rw [f2] at e; exact absurd e.2 (by rw [zeh]; decide))]
          exact Ev.ncond (by rw [f1]; decide) (Ev.fin rfl)
      · rw [if_neg c]
        exact Ev.step (fun k => by rw [tabardref04_Name.l0]) (Ev.ncond (by omega) (zb0 s n))
  exact Ev.congr (fun k => by rw [tabardref04_Name.f]; rfl) (key s.size 0 0 (by omega) (by omega) (by omega))
theorem zd0 (ns : List ByteArray) (hn : ns.length ≤ 9000000000000000000) (hs : ∀ x ∈ ns, x.size ≤ 9223372036854775807) : Ev (fun k => tabardref04_Rises.f k ns) (za9 ns) := by
  have key : ∀ (m i : Nat), i + m = ns.length → Ev (fun k => tabardref04_Rises.l0 k ns (i : Int)) (zaw ns m i) := by
    intro m
    induction m with
    | zero =>
      intro i hi
      refine Ev.step (fun k => by rw [tabardref04_Rises.l0]) (Ev.ncond (by omega) ?_)
      exact Ev.fin rfl
    | succ m ih =>
      intro i hi
      rw [zaw]
      have sz : (rdOf ByteArray.empty ns (i : Int)).size ≤ 9223372036854775807 := by rw [za2 _ ns (show i < ns.length by omega)]; exact hs _ (List.getElem_mem _)
      refine Ev.step (fun k => by rw [tabardref04_Rises.l0]) (Ev.cond (by omega) (Ev.cond (by omega) (Ev.bind (zek _ sz) ?_)))
      refine Ev.ite (fun a => ?_) (fun a => Ev.fin ?_)
      · rw [a, Bool.true_and]
        have nx := ih (i + 1) (by omega)
        refine Ev.ite (fun b => ?_) (fun b => ?_)
        · rw [w64 (x := (i : Int) - 1) (by omega) (by omega), w64 (x := (i : Int) + 1) (by omega) (by omega), show (i : Int) - 1 = ((i - 1 : Nat) : Int) by omega, decide_eq_false (show ¬ i = 0 by omega), Bool.false_or]
          refine Ev.cond (by omega) (Ev.cond (by omega) (Ev.ite (fun c => ?_) (fun c => Ev.fin ?_)))
          · rw [c, Bool.true_and]; exact nx
          · rw [Bool.not_eq_true] at c; rw [c, Bool.false_and]
        · rw [decide_eq_true (show i = 0 by omega), Bool.true_or, Bool.true_and, w64 (by omega) (by omega)]
          exact nx
      · rw [Bool.not_eq_true] at a; rw [a, Bool.false_and]
  exact Ev.congr (fun k => by rw [tabardref04_Rises.f]; rfl) (key ns.length 0 (by omega))
section
variable {ns : List ByteArray} {n : Nat}
variable {ac : List Bool} {nx : List (List Int)}
end
end Go.Proofs.Ythgoonohpfoagaa.Pure
namespace Go.Proofs.Ythgoonohpfoagaa.Pure
open Go.RowKit Go.Proofs.YthgoonohpfoagaaW.PrintWords Go.Proofs.YthgoonohpfoagaaW.PrintLast Go.Proofs.YthgoonohpfoagaaW.PrintMore Go.Proofs.Ythgoonohpfoagaa.X
set_option linter.unusedVariables false
def acF (ac : List Bool) (q : Nat) : Bool := ac.getD q false
def dlF (nx : List (List Int)) (q a : Nat) : Nat := ((nx.getD q []).getD a 0).toNat
structure Mk (ac : List Bool) (nx : List (List Int)) (L : Nat) : Prop where
  len : nx.length = ac.length
  n1 : 1 ≤ ac.length
  n2 : ac.length ≤ 256
  l1 : 1 ≤ L
  l2 : L ≤ 64
  rows : ∀ r ∈ nx, r.length = L ∧ ∀ x ∈ r, 0 ≤ x ∧ x < (ac.length : Int)
section
variable {ac : List Bool} {nx : List (List Int)} {L : Nat}
theorem Mk.row (h : Mk ac nx L) {q : Nat} (hq : q < ac.length) : (rd_L3 nx (q : Int)).length = L ∧ ∀ a : Nat, a < L → rd (rd_L3 nx (q : Int)) (a : Int) = ((dlF nx q a : Nat) : Int) ∧ dlF nx q a < ac.length := by
  have hq' : q < nx.length := by rw [h.len]; exact hq
  have r := h.rows _ (List.getElem_mem hq')
  rw [zcx nx hq']
  refine ⟨r.1, fun a ha => ?_⟩
  have ha' : a < (nx[q]).length := by rw [r.1]; exact ha
  have x := r.2 _ (List.getElem_mem ha')
  have e : dlF nx q a = ((nx[q])[a]).toNat := by simp [dlF, List.getD_eq_getElem?_getD, List.getElem?_eq_getElem hq', List.getElem?_eq_getElem ha']
  rw [zcl _ ha', e]
  omega
theorem Mk.acc (h : Mk ac nx L) {q : Nat} (hq : q < ac.length) : rdOf false ac (q : Int) = acF ac q := by
  rw [za2 false ac hq, acF, List.getD_eq_getElem?_getD, List.getElem?_eq_getElem hq]; rfl
end
end Go.Proofs.Ythgoonohpfoagaa.Pure
namespace Go.Proofs.Ythgoonohpfoagaa.Pure
set_option linter.unusedVariables false
section
variable {α : Type} [DecidableEq α]
def nm (ms : List α) (x : α) : List α := if x ∈ ms then ms else ms ++ [x]
def dd (l : List α) : List α := l.foldl nm []
theorem zax {ms : List α} {x y : α} : y ∈ nm ms x ↔ y ∈ ms ∨ y = x := by
  unfold nm
  split
  · rename_i h
    exact ⟨Or.inl, fun g => g.elim id (fun e => e ▸ h)⟩
  · simp
theorem zb7 {ms : List α} (h : ms.Nodup) (x : α) : (nm ms x).Nodup := by
  unfold nm
  split
  · exact h
  · rename_i g
    rw [List.nodup_append]
    exact ⟨h, by simp, fun a ha b hb e => g (by rw [List.mem_singleton.1 hb] at e; exact e ▸ ha)⟩
theorem zcb (ms : List α) (x : α) : ∃ t, nm ms x = ms ++ t := by
  unfold nm
  split
  · exact ⟨[], by simp⟩
  · exact ⟨_, rfl⟩
theorem zdu (l : List α) : ∀ ms : List α, ∃ t, l.foldl nm ms = ms ++ t := by
  induction l with
  | nil => intro ms; exact ⟨[], by simp⟩
  | cons x l ih =>
    intro ms
    obtain ⟨t, ht⟩ := zcb ms x
    obtain ⟨u, hu⟩ := ih (nm ms x)
    exact ⟨t ++ u, by rw [List.foldl_cons, hu, ht, List.append_assoc]⟩
theorem zdy (l : List α) : ∀ (ms : List α) (y : α), y ∈ l.foldl nm ms ↔ y ∈ ms ∨ y ∈ l := by
  induction l with
  | nil => intro ms y; simp
  | cons x l ih => intro ms y; rw [List.foldl_cons, ih, zax, List.mem_cons, or_assoc]
theorem zcv (l : List α) : ∀ ms : List α, ms.Nodup → (l.foldl nm ms).Nodup := by
  induction l with
  | nil => intro ms h; exact h
  | cons x l ih => intro ms h; exact ih _ (zb7 h x)
theorem zai {l : List α} {y : α} : y ∈ dd l ↔ y ∈ l := by rw [dd, zdy]; simp
theorem zeb (l : List α) : (dd l).Nodup := zcv l [] List.nodup_nil
theorem zc6 (l : List α) (x : α) : dd (l ++ [x]) = nm (dd l) x := by rw [dd, List.foldl_append]; rfl
theorem zds (l : List α) : ∀ ms : List α, (l.foldl nm ms).length ≤ ms.length + l.length := by
  induction l with
  | nil => intro ms; simp
  | cons x l ih =>
    intro ms
    have := ih (nm ms x)
    have h : (nm ms x).length ≤ ms.length + 1 := by
      unfold nm; split
      · omega
      · simp
    rw [List.foldl_cons, List.length_cons]; omega
theorem zcc (l : List α) : (dd l).length ≤ l.length := by have := zds l []; simpa [dd] using this
theorem zda {ms t : List α} {x : α} (h : x ∈ ms) : (ms ++ t).idxOf x = ms.idxOf x := by rw [List.idxOf_append, if_pos h]
theorem zc2 {ms : List α} {x y : α} (hx : x ∈ ms) (hy : y ∈ ms) (h : ms.idxOf x = ms.idxOf y) : x = y := by
  have h1 := List.idxOf_lt_length_of_mem hx
  have h2 := List.idxOf_lt_length_of_mem hy
  have e1 := List.getElem_idxOf h1
  have e2 := List.getElem_idxOf h2
  rw [← e1, ← e2]
  simp only [h]
theorem dd_map {β : Type} [DecidableEq β] (f : α → β) (l : List α) (hf : ∀ x ∈ l, ∀ y ∈ l, f x = f y → x = y) : dd (l.map f) = (dd l).map f := by
  have key : ∀ (n : Nat) (l : List α), l.length = n → (∀ x ∈ l, ∀ y ∈ l, f x = f y → x = y) → dd (l.map f) = (dd l).map f := by
    intro n
    induction n with
    | zero => intro l hl _; rw [List.length_eq_zero_iff.1 hl]; rfl
    | succ n ih =>
      intro l hl hf
      rcases List.eq_nil_or_concat l with rfl | ⟨m, x, rfl⟩
      · rfl
      · rw [List.concat_eq_append] at *
        have hm := ih m (by simpa using hl) (fun x hx y hy => hf x (by simp [hx]) y (by simp [hy]))
        rw [List.map_append, List.map_cons, List.map_nil, zc6, zc6, hm]
        unfold nm
        by_cases c : x ∈ dd m
        · rw [if_pos c, if_pos (List.mem_map_of_mem c)]
        · rw [if_neg c, if_neg, List.map_append]; · rfl
          intro h
          obtain ⟨y, hy, e⟩ := List.mem_map.1 h
          exact c (by rw [hf x (by simp) y (by simp [zai.1 hy]) e.symm]; exact hy)
  exact key _ l rfl hf
theorem zdz {S : List α} : ∀ {T : List α}, S.Nodup → (∀ x ∈ S, x ∈ T) → T.length ≤ S.length → ∀ y ∈ T, y ∈ S := by
  induction S with
  | nil => intro T _ _ h y hy; rw [List.eq_nil_of_length_eq_zero (Nat.le_zero.1 h)] at hy; exact hy
  | cons x S ih =>
    intro T hn hs hl y hy
    have hx : x ∈ T := hs x (by simp)
    have hn2 := List.nodup_cons.1 hn
    by_cases e : y = x
    · rw [e]; simp
    · refine List.mem_cons_of_mem _ (ih (T := T.erase x) hn2.2 (fun z hz => ?_) ?_ y ((List.mem_erase_of_ne e).2 hy))
      · have : z ≠ x := fun e => hn2.1 (e ▸ hz)
        exact (List.mem_erase_of_ne this).2 (hs z (by simp [hz]))
      · rw [List.length_erase_of_mem hx]
        rw [List.length_cons] at hl
        omega
theorem zbt {S T : List α} (hn : S.Nodup) (hs : ∀ x ∈ S, x ∈ T) : S.length ≤ T.length := by
  induction S generalizing T with
  | nil => simp
  | cons x S ih =>
    have hx : x ∈ T := hs x (by simp)
    have hn2 := List.nodup_cons.1 hn
    have := ih (T := T.erase x) hn2.2 (fun z hz => (List.mem_erase_of_ne (show z ≠ x from fun e => hn2.1 (e ▸ hz))).2 (hs z (by simp [hz])))
    rw [List.length_erase_of_mem hx] at this
    have : 0 < T.length := List.length_pos_of_mem hx
    rw [List.length_cons]; omega
end
theorem finer {β : Type} [DecidableEq β] {m m' : List β} (hl : m.length = m'.length) (hr : ∀ p q (hp : p < m.length) (hq : q < m.length), m'[p]'(hl ▸ hp) = m'[q]'(hl ▸ hq) → m[p] = m[q]) :
    (dd m).length ≤ (dd m').length ∧ ((dd m).length = (dd m').length → ∀ p q (hp : p < m.length) (hq : q < m.length), m[p] = m[q] → m'[p]'(hl ▸ hp) = m'[q]'(hl ▸ hq)) := by
  have pos : ∀ v ∈ dd m, m.idxOf v < m.length := fun v hv => List.idxOf_lt_length_of_mem (zai.1 hv)
  have hpos : ∀ v (hv : v ∈ dd m), m[m.idxOf v]'(pos v hv) = v := fun v hv => List.getElem_idxOf (pos v hv)
  let S := (dd m).attach.map fun v => m'[m.idxOf v.1]'(hl ▸ pos v.1 v.2)
  have hS : S.Nodup := by
    show (List.map _ _).Nodup
    rw [List.nodup_iff_pairwise_ne, List.pairwise_map]
    have h0 : (dd m).attach.Pairwise (fun a b => a.1 ≠ b.1) := by
      have := zeb m
      rw [List.nodup_iff_pairwise_ne] at this
      rw [← List.pairwise_map (f := Subtype.val) (R := fun a b => a ≠ b), List.attach_map_subtype_val]
      exact this
    refine h0.imp (fun {a b} hab e => hab ?_)
    have := hr _ _ (pos a.1 a.2) (pos b.1 b.2) e
    rw [hpos a.1 a.2, hpos b.1 b.2] at this
    exact this
  have hsub : ∀ x ∈ S, x ∈ dd m' := by
    intro x hx
    obtain ⟨v, _, rfl⟩ := List.mem_map.1 hx
    exact zai.2 (List.getElem_mem _)
  have hlen : S.length = (dd m).length := by simp [S]
  refine ⟨hlen ▸ zbt hS hsub, fun he p q hp hq e => ?_⟩
  have sup := zdz hS hsub (by omega)
  have at_ : ∀ p (hp : p < m.length), m'[p]'(hl ▸ hp) = m'[m.idxOf m[p]]'(hl ▸ pos _ (zai.2 (List.getElem_mem hp))) := by
    intro p hp
    obtain ⟨v, _, ev⟩ := List.mem_map.1 (sup _ (zai.2 (List.getElem_mem (hl ▸ hp : p < m'.length))))
    have h1 := hr _ _ (pos v.1 v.2) hp ev
    rw [hpos v.1 v.2] at h1
    rw [← ev]
    simp only [h1]
  rw [at_ p hp, at_ q hq]
  simp only [e]
section
variable (acc : Nat → Bool) (δ : Nat → Nat → Nat) (L : Nat)
def RR : Nat → Nat → Nat → Prop
  | 0, p, q => acc p = acc q
  | i + 1, p, q => RR i p q ∧ ∀ a, a < L → RR i (δ p a) (δ q a)
def EE (p q : Nat) : Prop := ∀ i, RR acc δ L i p q
end
section
variable {acc : Nat → Bool} {δ : Nat → Nat → Nat} {L : Nat}
theorem RR.symm : ∀ {i p q : Nat}, RR acc δ L i p q → RR acc δ L i q p
  | 0, _, _, h => Eq.symm h
  | _ + 1, _, _, h => ⟨RR.symm h.1, fun a ha => RR.symm (h.2 a ha)⟩
theorem RR.trans : ∀ {i p q r : Nat}, RR acc δ L i p q → RR acc δ L i q r → RR acc δ L i p r
  | 0, _, _, _, h, k => Eq.trans h k
  | _ + 1, _, _, _, h, k => ⟨RR.trans h.1 k.1, fun a ha => RR.trans (h.2 a ha) (k.2 a ha)⟩
theorem RR.down : ∀ {j i p q : Nat}, RR acc δ L (i + j) p q → RR acc δ L i p q
  | 0, _, _, _, h => h
  | _ + 1, _, _, _, h => RR.down h.1
theorem EE.symm {p q : Nat} (h : EE acc δ L p q) : EE acc δ L q p := fun i => (h i).symm
theorem EE.trans {p q r : Nat} (h : EE acc δ L p q) (k : EE acc δ L q r) : EE acc δ L p r := fun i => (h i).trans (k i)
theorem EE.next {p q a : Nat} (h : EE acc δ L p q) (ha : a < L) : EE acc δ L (δ p a) (δ q a) := fun i => (h (i + 1)).2 a ha
theorem RR.stays {n : Nat} (hδ : ∀ q, q < n → ∀ a, a < L → δ q a < n) {i : Nat} (h : ∀ p q, p < n → q < n → RR acc δ L i p q → RR acc δ L (i + 1) p q) : ∀ (j p q : Nat), p < n → q < n → RR acc δ L i p q → RR acc δ L (i + j) p q := by
  intro j
  induction j with
  | zero => intro p q _ _ k; exact k
  | succ j ih => intro p q hp hq k; exact ⟨ih p q hp hq k, fun a ha => ih _ _ (hδ p hp a ha) (hδ q hq a ha) ((h p q hp hq k).2 a ha)⟩
theorem EE.of_stays {n : Nat} (hδ : ∀ q, q < n → ∀ a, a < L → δ q a < n) {i : Nat} (h : ∀ p q, p < n → q < n → RR acc δ L i p q → RR acc δ L (i + 1) p q) {p q : Nat} (hp : p < n) (hq : q < n) (k : RR acc δ L i p q) : EE acc δ L p q := by
  intro j
  by_cases c : j ≤ i
  · obtain ⟨d, rfl⟩ : ∃ d, i = j + d := ⟨i - j, by omega⟩
    exact k.down
  · obtain ⟨d, rfl⟩ : ∃ d, j = i + d := ⟨j - i, by omega⟩
    exact RR.stays hδ h d p q hp hq k
end
structure Least (r : Nat → Nat → Prop) (n : Nat) (l : List Int) : Prop where
  len : l.length = n
  at_ : ∀ q, q < n → ∃ p : Nat, l.getD q 0 = (p : Int) ∧ p ≤ q ∧ r p q ∧ ∀ p', p' < p → ¬ r p' q
theorem Least.iff {r s : Nat → Nat → Prop} {n : Nat} {l : List Int} (h : Least r n l) (e : ∀ p q, p < n → q < n → (r p q ↔ s p q)) : Least s n l :=
  ⟨h.len, fun q hq => by
    obtain ⟨p, h1, h2, h3, h4⟩ := h.at_ q hq
    exact ⟨p, h1, h2, (e p q (by omega) hq).1 h3, fun p' hp' z => h4 p' hp' ((e p' q (by omega) hq).2 z)⟩⟩
end Go.Proofs.Ythgoonohpfoagaa.Pure
namespace Go.Proofs.Ythgoonohpfoagaa.Pure
set_option linter.unusedVariables false
section
variable (L : Nat)
def rkF (r : Nat) (w : List Nat) : Nat := w.foldl (fun r a => r * L + a + 1) r
def Let (w : List Nat) : Prop := ∀ a ∈ w, a < L
end
section
variable {L : Nat}
theorem za1 (r a : Nat) (v : List Nat) : rkF L r (a :: v) = rkF L (r * L + a + 1) v := rfl
theorem zet {r r' a b : Nat} (h : r < r') (ha : a < L) : r * L + a + 1 < r' * L + b + 1 := by
  have : (r + 1) * L ≤ r' * L := Nat.mul_le_mul_right L h
  rw [Nat.add_mul] at this
  omega
theorem rk_lt : ∀ (x y : List Nat) (r r' : Nat), x.length = y.length → Let L x → r < r' → rkF L r x < rkF L r' y
  | [], [], _, _, _, _, h => h
  | [], _ :: _, _, _, h, _, _ => by simp at h
  | _ :: _, [], _, _, h, _, _ => by simp at h
  | a :: x, b :: y, r, r', hl, hx, h => by
    rw [za1, za1]
    exact rk_lt x y _ _ (by simpa using hl) (fun c hc => hx c (by simp [hc])) (zet h (hx a (by simp)))
end
section
variable (acc : Nat → Bool) (δ : Nat → Nat → Nat) (L : Nat)
def runN (q : Nat) (w : List Nat) : Nat := w.foldl δ q
def accN : Nat → Nat → Bool
  | 0, q => acc q
  | n + 1, q => (List.range L).any fun a => accN n (δ q a)
end
section
variable {acc : Nat → Bool} {δ : Nat → Nat → Nat} {L : Nat}
theorem zdp (q : Nat) (u : List Nat) (b : Nat) : runN δ q (u ++ [b]) = δ (runN δ q u) b := by simp [runN]
theorem zbg : ∀ (n q : Nat), accN acc δ L n q = true ↔ ∃ w, w.length = n ∧ Let L w ∧ acc (runN δ q w) = true
  | 0, q => by
    constructor
    · intro h; exact ⟨[], rfl, by simp [Let], h⟩
    · rintro ⟨w, h0, _, h⟩
      rw [List.length_eq_zero_iff.1 h0] at h
      exact h
  | n + 1, q => by
    rw [accN, List.any_eq_true]
    constructor
    · rintro ⟨a, ha, h⟩
      obtain ⟨w, h1, h2, h3⟩ := (zbg n (δ q a)).1 h
      exact ⟨a :: w, by simp [h1], by intro c hc; rcases List.mem_cons.1 hc with rfl | h; exact List.mem_range.1 ha; exact h2 c h, h3⟩
    · rintro ⟨w, h1, h2, h3⟩
      rcases w with _ | ⟨a, w⟩
      · simp at h1
      · exact ⟨a, List.mem_range.2 (h2 a (by simp)), (zbg n (δ q a)).2 ⟨w, by simpa using h1, fun c hc => h2 c (by simp [hc]), h3⟩⟩
inductive Greedy (acc : Nat → Bool) (δ : Nat → Nat → Nat) (L : Nat) : Nat → Nat → List Nat → Prop
  | nil (q : Nat) (h : acc q = true) : Greedy acc δ L 0 q []
  | cons (n q a : Nat) (w : List Nat) (ha : a < L) (hl : ∀ b, b < a → accN acc δ L n (δ q b) = false) (h : Greedy acc δ L n (δ q a) w) : Greedy acc δ L (n + 1) q (a :: w)
theorem Greedy.len {n q : Nat} {w : List Nat} (h : Greedy acc δ L n q w) : w.length = n ∧ Let L w ∧ acc (runN δ q w) = true := by
  induction h with
  | nil q h => exact ⟨rfl, by simp [Let], h⟩
  | cons n q a w ha hl h ih => exact ⟨by simp [ih.1], by intro c hc; rcases List.mem_cons.1 hc with rfl | h; exact ha; exact ih.2.1 c h, ih.2.2⟩
theorem Greedy.least {n q : Nat} {w : List Nat} (h : Greedy acc δ L n q w) : ∀ (v : List Nat) (r : Nat), v.length = n → Let L v → acc (runN δ q v) = true → rkF L r w ≤ rkF L r v := by
  induction h with
  | nil q h => intro v r hv _ _; rw [List.length_eq_zero_iff.1 hv]; exact Nat.le_refl _
  | cons n q a w ha hl h ih =>
    intro v r hv hlv hacc
    rcases v with _ | ⟨c, v⟩
    · simp at hv
    have hv' : v.length = n := by simpa using hv
    have hlv' : Let L v := fun z hz => hlv z (by simp [hz])
    rw [za1, za1]
    rcases Nat.lt_trichotomy a c with d | d | d
    · exact Nat.le_of_lt (rk_lt w v _ _ (by rw [h.len.1, hv']) h.len.2.1 (by omega))
    · subst d; exact ih v _ hv' hlv' hacc
    · have := hl c d
      rw [(zbg n (δ q c)).2 ⟨v, hv', hlv', hacc⟩] at this
      cases this
structure Met (acc : Nat → Bool) (δ : Nat → Nat → Nat) (L n : Nat) (ls : List Nat) (ws : List (List Nat)) : Prop where
  len : ws.length = ls.length
  h0 : ls[0]? = some 0 ∧ ws[0]? = some []
  run : ∀ (k q : Nat) (w : List Nat), ls[k]? = some q → ws[k]? = some w → runN δ 0 w = q ∧ Let L w ∧ q < n ∧ w.length ≤ k
  up : ∀ (k k' : Nat) (w w' : List Nat), k < k' → ws[k]? = some w → ws[k']? = some w' → rkF L 0 w < rkF L 0 w'
  nodup : ls.Nodup
theorem Met.size {n : Nat} {ls : List Nat} {ws : List (List Nat)} (M : Met acc δ L n ls ws) : ls.length ≤ n := by
  have : ∀ x ∈ ls, x ∈ List.range n := by
    intro x hx
    obtain ⟨k, hk, rfl⟩ := List.getElem_of_mem hx
    obtain ⟨w, hw⟩ : ∃ w, ws[k]? = some w := ⟨_, List.getElem?_eq_getElem (by rw [M.len]; exact hk)⟩
    exact List.mem_range.2 (M.run k _ w (List.getElem?_eq_getElem hk) hw).2.2.1
  have key : ∀ (S : List Nat) (T : List Nat), S.Nodup → (∀ x ∈ S, x ∈ T) → S.length ≤ T.length := by
    intro S
    induction S with
    | nil => intro T _ _; simp
    | cons x S ih =>
      intro T hn hs
      have hx : x ∈ T := hs x (by simp)
      have hn2 := List.nodup_cons.1 hn
      have := ih (T.erase x) hn2.2 (fun z hz => (List.mem_erase_of_ne (show z ≠ x from fun e => hn2.1 (e ▸ hz))).2 (hs z (by simp [hz])))
      rw [List.length_erase_of_mem hx] at this
      have : 0 < T.length := List.length_pos_of_mem hx
      rw [List.length_cons]; omega
  have := key ls (List.range n) M.nodup this
  simpa using this
end
end Go.Proofs.Ythgoonohpfoagaa.Pure
namespace Go.Proofs.Ythgoonohpfoagaa.Pure
open Go.RowKit Go.Proofs.YthgoonohpfoagaaW.PrintWords Go.Proofs.YthgoonohpfoagaaW.PrintLast Go.Proofs.YthgoonohpfoagaaW.PrintMore Go.Proofs.Ythgoonohpfoagaa.X
set_option linter.unusedVariables false
theorem zcf {x : Int} (h0 : 0 ≤ x) (h1 : x ≤ 1000000) : (Lit.int .i64 x).wf = true := by
  simp [Lit.wf, IntKind.min, IntKind.max, IntKind.signed, IntKind.bits]; omega
theorem dgo : ∀ (l : List Int) (j : Nat) (xs ms : List Int), xs.length = j + l.length →
    canon_dense.go l j xs ms = (xs.take j ++ l.map (fun x => (((l.foldl nm ms).idxOf x : Nat) : Int)), l.foldl nm ms)
  | [], j, xs, ms, h => by simp [canon_dense.go, List.take_of_length_le (show xs.length ≤ j by simpa using Nat.le_of_eq h)]
  | x :: l, j, xs, ms, h => by
    rw [canon_dense.go, dgo l (j + 1) _ _ (by rw [List.length_set, h, List.length_cons]; omega)]
    have hx : x ∈ nm ms x := zax.2 (.inr rfl)
    obtain ⟨t, ht⟩ := zdu l (nm ms x)
    have e : num1 (names1 ms x) x = (l.foldl nm (nm ms x)).idxOf x := by rw [ht, zda hx]; rfl
    have j1 : j < xs.length := by rw [h, List.length_cons]; omega
    have e2 : (xs.set j ((num1 (names1 ms x) x : Nat) : Int)).take (j + 1) = xs.take j ++ [((num1 (names1 ms x) x : Nat) : Int)] := by
      rw [List.take_succ_eq_append_getElem (by simpa using j1), List.getElem_set_self, List.take_set_of_le (Nat.le_refl _)]
    rw [e2, e]
    simp [List.foldl_cons, show names1 ms x = nm ms x from rfl]
theorem zec {l : List Int} (hl : l.length ≤ 35184372088832) (hw : ∀ x ∈ l, (Lit.int .i64 x).wf = true) :
    canon_dense.f l = some (l.map (fun x => (((dd l).idxOf x : Nat) : Int)), ((dd l).length : Int)) := by
  unfold canon_dense.f
  rw [if_pos hl, if_pos hw, dgo l 0 _ [] (by simp)]
  simp [dd]
theorem zan {α : Type} [DecidableEq α] {ms t : List α} {x : α} (h : x ∈ ms) : num1 (ms ++ t) x = num1 ms x := zda h
theorem zd3 {α : Type} [DecidableEq α] {ms : List α} {x y : α} (hx : x ∈ ms) (hy : y ∈ ms) (h : num1 ms x = num1 ms y) : x = y := zc2 hx hy h
theorem zam {α : Type} [DecidableEq α] {ms : List α} {x : α} (h : x ∈ ms) : num1 ms x < ms.length := List.idxOf_lt_length_of_mem h
def zac (cls : List Int) (P : List (Int × Int)) (len : Int) : List Int → Int → Int → Int → Prop
  | [], _, n, z => n = z
  | q :: r, a, n, z => (n * (len + 1) + a, rd cls q) ∈ P ∧ zac cls P len r (a + 1) ((num1 P (n * (len + 1) + a, rd cls q) : Nat) : Int) z
theorem zac.more {cls : List Int} {P t : List (Int × Int)} {len : Int} : ∀ {r : List Int} {a n z : Int}, zac cls P len r a n z → zac cls (P ++ t) len r a n z
  | [], _, _, _, h => h
  | q :: r, a, n, z, ⟨h1, h2⟩ => ⟨List.mem_append_left _ h1, by rw [zan h1]; exact zac.more h2⟩
theorem zac.same {cls : List Int} {P : List (Int × Int)} {len : Int} : ∀ {r r' : List Int} {a n z z' : Int}, r.map (rd cls) = r'.map (rd cls) → zac cls P len r a n z → zac cls P len r' a n z' → z = z'
  | [], [], _, _, _, _, _, h, k => (Eq.symm h).trans k
  | [], _ :: _, _, _, _, _, e, _, _ => by simp at e
  | _ :: _, [], _, _, _, _, e, _, _ => by simp at e
  | q :: r, q' :: r', a, n, z, z', e, ⟨_, h⟩, ⟨_, k⟩ => by
    rw [List.map_cons, List.map_cons, List.cons.injEq] at e
    rw [← e.1] at k
    exact zac.same e.2 h k
theorem zac.back {cls : List Int} {P : List (Int × Int)} {len : Int} (hlen : 0 ≤ len) : ∀ {r r' : List Int} {a n n' z : Int}, r.length = r'.length → 0 ≤ n → 0 ≤ n' → zac cls P len r a n z → zac cls P len r' a n' z → n = n' ∧ r.map (rd cls) = r'.map (rd cls)
  | [], [], _, _, _, _, _, _, _, h, k => ⟨Eq.trans h (Eq.symm k), rfl⟩
  | [], _ :: _, _, _, _, _, e, _, _, _, _ => by simp at e
  | _ :: _, [], _, _, _, _, e, _, _, _, _ => by simp at e
  | q :: r, q' :: r', a, n, n', z, e, h0, h1, ⟨m, h⟩, ⟨m', k⟩ => by
    obtain ⟨e1, e2⟩ := zac.back hlen (by simpa using e) (by omega) (by omega) h k
    have e3 := zd3 m m' (by omega)
    rw [Prod.mk.injEq] at e3
    have e4 : n * (len + 1) = n' * (len + 1) := by omega
    exact ⟨Int.eq_of_mul_eq_mul_right (by omega) e4, by rw [List.map_cons, List.map_cons, e3.2, e2]⟩
def Sm (cls : List Int) : Prop := ∀ x ∈ cls, 0 ≤ x ∧ x ≤ 1000
theorem Sm.bd {cls : List Int} (h : Sm cls) (q : Int) : 0 ≤ rd cls q ∧ rd cls q ≤ 1000 := by
  unfold rd
  rw [List.getD_eq_getElem?_getD]
  by_cases c : q.toNat < cls.length
  · rw [List.getElem?_eq_getElem c]; exact h _ (List.getElem_mem c)
  · rw [List.getElem?_eq_none (by omega)]; simp
theorem mul_bd {n len : Int} (h0 : 0 ≤ n) (h1 : n ≤ 100000) (h2 : 0 ≤ len) (h3 : len ≤ 64) : 0 ≤ n * (len + 1) ∧ n * (len + 1) ≤ 6500000 := by
  refine ⟨Int.mul_nonneg h0 (by omega), ?_⟩
  have := Int.mul_le_mul h1 (show len + 1 ≤ 65 by omega) (by omega) (by omega : (0 : Int) ≤ 100000)
  omega
theorem nm_len {α : Type} [DecidableEq α] (ms : List α) (x : α) : (nm ms x).length ≤ ms.length + 1 ∧ ms.length ≤ (nm ms x).length := by
  unfold nm; split
  · omega
  · simp
theorem srow {cls : List Int} (hc : Sm cls) {len : Int} (h2 : 0 ≤ len) (h3 : len ≤ 64) : ∀ (r : List Int) (a n : Int) (ps : List (Int × Int)), (∀ q ∈ r, 0 ≤ q ∧ q < (cls.length : Int)) → 0 ≤ a → a + r.length ≤ 64 → 0 ≤ n → n ≤ 100000 → ps.length + r.length ≤ 100000 →
    ∃ (z : Int) (t : List (Int × Int)), canon_split.row cls len r a n ps = some (z, ps ++ t) ∧ t.length ≤ r.length ∧ 0 ≤ z ∧ z ≤ 100000 ∧ zac cls (ps ++ t) len r a n z
  | [], a, n, ps, _, _, _, h0, h1, _ => ⟨n, [], by simp [canon_split.row], Nat.le_refl _, h0, h1, rfl⟩
  | q :: r, a, n, ps, hq, ha, har, h0, h1, hp => by
    have q1 := hq q (by simp)
    have m := mul_bd h0 h1 h2 h3
    have c := hc.bd q
    rw [List.length_cons] at hp har
    rw [canon_split.row, if_pos q1.1, if_pos q1.2, if_pos (zcf c.1 (by omega)), if_pos (by omega)]
    have e : wrap64 (wrap64 (n * wrap64 (len + 1)) + a) = n * (len + 1) + a := by
      rw [show wrap64 (len + 1) = len + 1 from by unfold wrap64; omega]
      rw [show wrap64 (n * (len + 1)) = n * (len + 1) from by generalize n * (len + 1) = y at m; unfold wrap64; omega]
      generalize n * (len + 1) = y at m; unfold wrap64; omega
    have e' : wrap64 (a + 1) = a + 1 := by unfold wrap64; omega
    rw [e, e', show names1 ps (n * (len + 1) + a, rd cls q) = nm ps (n * (len + 1) + a, rd cls q) from rfl]
    generalize hp' : (n * (len + 1) + a, rd cls q) = p
    obtain ⟨t0, ht0⟩ := zcb ps p
    have l1 := nm_len ps p
    have hm : p ∈ nm ps p := zax.2 (.inr rfl)
    have lt := zam hm
    obtain ⟨z, t, h, ht, z0, z1, ch⟩ := srow hc h2 h3 r (a + 1) ((num1 (nm ps p) p : Nat) : Int) (nm ps p) (fun x hx => hq x (by simp [hx])) (by omega) (by omega) (by omega) (by omega) (by omega)
    have l2 : t0.length ≤ 1 := by have := congrArg List.length ht0; rw [List.length_append] at this; omega
    rw [ht0, List.append_assoc] at h ch
    rw [ht0]
    refine ⟨z, t0 ++ t, h, by rw [List.length_append, List.length_cons]; omega, z0, z1, ?_⟩
    rw [ht0] at hm
    unfold zac
    rw [hp']
    refine ⟨by rw [← List.append_assoc]; exact List.mem_append_left _ hm, ?_⟩
    have e5 : num1 (ps ++ (t0 ++ t)) p = num1 (ps ++ t0) p := by rw [← List.append_assoc, zan hm]
    rw [e5]; exact ch
theorem sgo {cls : List Int} (hc : Sm cls) : ∀ (l : List (List Int)) (j : Nat) (xs : List Int) (ps : List (Int × Int)), (∀ r ∈ l, r.length ≤ 64 ∧ ∀ q ∈ r, 0 ≤ q ∧ q < (cls.length : Int)) → j + l.length ≤ cls.length → xs.length = cls.length → ps.length + 64 * l.length ≤ 100000 →
    ∃ (ys : List Int) (t : List (Int × Int)), canon_split.go cls l j xs ps = some ys ∧ ys.length = xs.length ∧ (∀ i, i < j → ys.getD i 0 = xs.getD i 0) ∧ (∀ i (h : i < l.length), 0 ≤ ys.getD (j + i) 0 ∧ ys.getD (j + i) 0 ≤ 100000 ∧ zac cls (ps ++ t) (l[i].length : Int) l[i] 0 (rd cls ((j + i : Nat) : Int)) (ys.getD (j + i) 0))
  | [], j, xs, ps, _, _, _, _ => ⟨xs, [], rfl, rfl, fun _ _ => rfl, fun i h => absurd h (by simp)⟩
  | r :: l, j, xs, ps, hr, hj, hx, hp => by
    have r1 := hr r (by simp)
    rw [List.length_cons] at hj hp
    have c := hc.bd (j : Int)
    obtain ⟨z, t0, h0, ht, z0, z1, ch⟩ := srow hc (len := (r.length : Int)) (by omega) (by omega) r 0 (rd cls (j : Int)) ps r1.2 (by omega) (by omega) c.1 (by omega) (by omega)
    obtain ⟨ys, t, h, hl, hlo, hhi⟩ := sgo hc l (j + 1) (xs.set j z) (ps ++ t0) (fun x h => hr x (by simp [h])) (by omega) (by rw [List.length_set, hx]) (by rw [List.length_append]; omega)
    refine ⟨ys, t0 ++ t, ?_, by rw [hl, List.length_set], fun i hi => ?_, fun i hi => ?_⟩
    · rw [canon_split.go, if_pos (by omega), h0, Option.bind_some]; exact h
    · rw [hlo i (by omega), List.getD_eq_getElem?_getD, List.getElem?_set_ne (by omega), ← List.getD_eq_getElem?_getD]
    · cases i with
      | zero =>
        have e : ys.getD j 0 = z := by
          rw [hlo j (by omega), List.getD_eq_getElem?_getD, List.getElem?_set_self (by omega)]; rfl
        show 0 ≤ ys.getD j 0 ∧ ys.getD j 0 ≤ 100000 ∧ zac cls (ps ++ (t0 ++ t)) (r.length : Int) r 0 (rd cls (j : Int)) (ys.getD j 0)
        rw [e, ← List.append_assoc]
        exact ⟨z0, z1, ch.more⟩
      | succ i =>
        have := hhi i (by simpa using hi)
        rw [show j + 1 + i = j + (i + 1) by omega, List.append_assoc] at this
        exact this
theorem zef {n L : Nat} {nx : List (List Int)} {bc : List Bool} (R : Mk bc nx L) (en : n = bc.length) (ns : List ByteArray) (ac : List Bool) {cls : List Int} (hl : cls.length = n) (hc : Sm cls) :
    ∃ out : List Int, canon_split.f ns ac nx cls = some (out, ((dd out).length : Int)) ∧ out.length = n ∧ (∀ x ∈ out, 0 ≤ x ∧ x < (n : Int)) ∧
      ∀ p q (hp : p < n) (hq : q < n), out.getD p 0 = out.getD q 0 ↔ (cls.getD p 0 = cls.getD q 0 ∧ ∀ a, a < L → rd cls ((nx.getD p []).getD a 0) = rd cls ((nx.getD q []).getD a 0)) := by
  subst en
  have hn := R.n2
  have hnl := R.len
  obtain ⟨ys, t, h, yl, _, hy⟩ := sgo hc nx 0 (List.replicate cls.length 0) [] (fun r hr => ⟨by rw [(R.rows r hr).1]; exact R.l2, by rw [hl]; exact (R.rows r hr).2⟩) (by omega) (by simp) (by simp; omega)
  rw [List.length_replicate, hl] at yl
  have yw : ∀ x ∈ ys, 0 ≤ x ∧ x ≤ 100000 := by
    intro x hx
    obtain ⟨i, hi, rfl⟩ := List.mem_iff_getElem.1 hx
    have := hy i (by omega)
    rw [Nat.zero_add, List.getD_eq_getElem?_getD, List.getElem?_eq_getElem hi] at this
    exact ⟨this.1, this.2.1⟩
  have D := zec (l := ys) (by omega) (fun x hx => zcf (yw x hx).1 (by have := (yw x hx).2; omega))
  have inj : ∀ x ∈ ys, ∀ y ∈ ys, (((dd ys).idxOf x : Nat) : Int) = (((dd ys).idxOf y : Nat) : Int) → x = y := fun x hx y hy' e => zc2 (zai.2 hx) (zai.2 hy') (by omega)
  have dl := zcc ys
  refine ⟨ys.map (fun x => (((dd ys).idxOf x : Nat) : Int)), ?_, by simp [yl], fun x hx => ?_, fun p q hp hq => ?_⟩
  · rw [dd_map _ _ inj, List.length_map]
    unfold canon_split.f
    rw [if_pos (by omega), h, Option.bind_some, D]
  · obtain ⟨y, hy1, rfl⟩ := List.mem_map.1 hx
    have := List.idxOf_lt_length_of_mem (zai.2 hy1)
    omega
  · have gp : ∀ p, p < bc.length → (ys.map (fun x => (((dd ys).idxOf x : Nat) : Int))).getD p 0 = (((dd ys).idxOf (ys.getD p 0) : Nat) : Int) := by
      intro p hp
      have c : p < ys.length := by omega
      rw [List.getD_eq_getElem?_getD, List.getElem?_map, List.getD_eq_getElem?_getD, List.getElem?_eq_getElem c]; rfl
    rw [gp p hp, gp q hq]
    have mem : ∀ p, p < bc.length → ys.getD p 0 ∈ ys := by
      intro p hp
      rw [List.getD_eq_getElem?_getD, List.getElem?_eq_getElem (by omega)]; exact List.getElem_mem _
    have rw_ : ∀ p (_ : p < bc.length), nx.getD p [] = nx[p]'(by omega) ∧ (nx.getD p []).length = L := by
      intro p hp
      rw [List.getD_eq_getElem?_getD, List.getElem?_eq_getElem (by omega)]
      exact ⟨rfl, (R.rows _ (List.getElem_mem _)).1⟩
    obtain ⟨ep, lp⟩ := rw_ p hp
    obtain ⟨eq, lq⟩ := rw_ q hq
    obtain ⟨_, _, cp⟩ := hy p (by omega)
    obtain ⟨_, _, cq⟩ := hy q (by omega)
    rw [Nat.zero_add, ← ep, lp] at cp
    rw [Nat.zero_add, ← eq, lq] at cq
    have rdn : ∀ i : Nat, rd cls (i : Int) = cls.getD i 0 := fun i => zaf cls i
    rw [rdn] at cp cq
    have bp := hc.bd (p : Int)
    have bq := hc.bd (q : Int)
    rw [rdn] at bp bq
    have maps : (nx.getD p []).map (rd cls) = (nx.getD q []).map (rd cls) ↔ ∀ a, a < L → rd cls ((nx.getD p []).getD a 0) = rd cls ((nx.getD q []).getD a 0) := by
      constructor
      · intro e a ha
        have := congrArg (fun l => l[a]?) e
        simp only [List.getElem?_map] at this
        have c1 : a < (nx.getD p []).length := by omega
        have c2 : a < (nx.getD q []).length := by omega
        generalize nx.getD p [] = u at *
        generalize nx.getD q [] = v at *
        rw [List.getElem?_eq_getElem c1, List.getElem?_eq_getElem c2] at this
        rw [List.getD_eq_getElem?_getD, List.getElem?_eq_getElem c1, List.getD_eq_getElem?_getD, List.getElem?_eq_getElem c2]
        simpa using this
      · intro e
        refine List.ext_getElem (by rw [List.length_map, List.length_map, lp, lq]) (fun a h1 h2 => ?_)
        rw [List.length_map, lp] at h1
        have := e a h1
        have c1 : a < (nx.getD p []).length := by omega
        have c2 : a < (nx.getD q []).length := by omega
        generalize nx.getD p [] = u at *
        generalize nx.getD q [] = v at *
        rw [List.getD_eq_getElem?_getD, List.getElem?_eq_getElem c1, List.getD_eq_getElem?_getD, List.getElem?_eq_getElem c2] at this
        simpa using this
    constructor
    · intro e
      have e1 := inj _ (mem p hp) _ (mem q hq) e
      rw [e1] at cp
      obtain ⟨a1, a2⟩ := zac.back (by omega) (by omega) bp.1 bq.1 cp cq
      exact ⟨a1, maps.1 a2⟩
    · rintro ⟨a1, a2⟩
      rw [a1] at cp
      rw [zac.same (maps.2 a2) cp cq]
end Go.Proofs.Ythgoonohpfoagaa.Pure
namespace Go.Proofs.Ythgoonohpfoagaa.Pure
open Go.RowKit Go.Proofs.YthgoonohpfoagaaW.PrintWords Go.Proofs.YthgoonohpfoagaaW.PrintLast Go.Proofs.YthgoonohpfoagaaW.PrintMore Go.Proofs.Ythgoonohpfoagaa.X
set_option linter.unusedVariables false
structure Lab (r : Nat → Nat → Prop) (n : Nat) (l : List Int) : Prop where
  len : l.length = n
  sm : Sm l
  iff : ∀ p q, p < n → q < n → (l.getD p 0 = l.getD q 0 ↔ r p q)
theorem gD {l : List Int} {p : Nat} (h : p < l.length) : l.getD p 0 = l[p] := by simp [List.getD_eq_getElem?_getD, h]
theorem zaz {l : List Int} {i p : Nat} {v : Int} (h : i < l.length) : (l.set i v).getD p 0 = if p = i then v else l.getD p 0 := by
  by_cases c : p = i
  · subst c
    rw [if_pos rfl, List.getD_eq_getElem?_getD, List.getElem?_set_self h]; rfl
  · rw [if_neg c, List.getD_eq_getElem?_getD, List.getElem?_set_ne (by omega), ← List.getD_eq_getElem?_getD]
theorem Lab.finer {r s : Nat → Nat → Prop} {n : Nat} {l l' : List Int} (h : Lab r n l) (k : Lab s n l') (f : ∀ p q, p < n → q < n → s p q → r p q) :
    (dd l).length ≤ (dd l').length ∧ ((dd l).length = (dd l').length → ∀ p q, p < n → q < n → r p q → s p q) := by
  have hl : l.length = l'.length := h.len.trans k.len.symm
  obtain ⟨a, b⟩ := Pure.finer (m := l) (m' := l') hl (fun p q hp hq e => by
    have hp' := h.len ▸ hp
    have hq' := h.len ▸ hq
    rw [← gD, ← gD, k.iff p q hp' hq'] at e
    rw [← gD hp, ← gD hq, h.iff p q hp' hq']
    exact f p q hp' hq' e)
  refine ⟨a, fun e p q hp hq x => ?_⟩
  have hp' : p < l.length := by rw [h.len]; exact hp
  have hq' : q < l.length := by rw [h.len]; exact hq
  have := b e p q hp' hq' (by rw [← gD hp', ← gD hq', h.iff p q hp hq]; exact x)
  rw [← gD, ← gD, k.iff p q hp hq] at this
  exact this
theorem Lab.pos {r : Nat → Nat → Prop} {n : Nat} {l : List Int} (h : Lab r n l) (h1 : 1 ≤ n) : 1 ≤ (dd l).length := by
  have m : l[0]'(by rw [h.len]; omega) ∈ dd l := zai.2 (List.getElem_mem _)
  exact List.length_pos_of_mem m
section
variable {ac : List Bool} {nx : List (List Int)} {L : Nat}
theorem Mk.to (m : Mk ac nx L) {q a : Nat} (hq : q < ac.length) (ha : a < L) : dlF nx q a < ac.length := ((m.row hq).2 a ha).2
theorem zb2 (m : Mk ac nx L) (ns : List ByteArray) {i : Nat} {cls : List Int} (h : Lab (RR (acF ac) (dlF nx) L i) ac.length cls) :
    ∃ out, canon_split.f ns ac nx cls = some (out, ((dd out).length : Int)) ∧ Lab (RR (acF ac) (dlF nx) L (i + 1)) ac.length out := by
  obtain ⟨out, e, l, b, h2⟩ := zef m rfl ns ac h.len h.sm
  refine ⟨out, e, l, fun x hx => ⟨(b x hx).1, by have := (b x hx).2; have := m.n2; omega⟩, fun p q hp hq => ?_⟩
  rw [h2 p q hp hq, h.iff p q hp hq]
  have r : ∀ p a, rd cls ((nx.getD p []).getD a 0) = cls.getD (dlF nx p a) 0 := fun p a => by simp [rd, dlF]
  constructor
  · rintro ⟨h1, h3⟩
    refine ⟨h1, fun a ha => ?_⟩
    have := h3 a ha
    rw [r, r] at this
    exact (h.iff _ _ (m.to hp ha) (m.to hq ha)).1 this
  · rintro ⟨h1, h3⟩
    refine ⟨h1, fun a ha => ?_⟩
    rw [r, r]
    exact (h.iff _ _ (m.to hp ha) (m.to hq ha)).2 (h3 a ha)
theorem cl1 (m : Mk ac nx L) (ns : List ByteArray) : ∀ (d i : Nat) (cls : List Int), Lab (RR (acF ac) (dlF nx) L i) ac.length cls → 257 ≤ (dd cls).length + d →
    ∃ out, Lab (EE (acF ac) (dlF nx) L) ac.length out ∧ Ev (fun k => canon_classes.l1 k cls ((dd cls).length : Int) ns ac nx) out := by
  intro d
  induction d with
  | zero =>
    intro i cls h hd
    have := zcc cls
    have := h.len
    have := m.n2
    omega
  | succ d ih =>
    intro i cls h hd
    obtain ⟨out, e, hL⟩ := zb2 m ns h
    have f := h.finer hL (fun p q _ _ x => x.1)
    by_cases c : ((dd out).length : Int) = ((dd cls).length : Int)
    · have st := f.2 (by omega)
      refine ⟨out, ⟨hL.len, hL.sm, fun p q hp hq => ?_⟩, Ev.step (fun k => by rw [canon_classes.l1]) (Ev.ret e (Ev.cond c (Ev.fin rfl)))⟩
      rw [hL.iff p q hp hq]
      exact ⟨fun x => EE.of_stays (fun q hq a ha => m.to hq ha) st hp hq x.1, fun x => x _⟩
    · obtain ⟨o, hE, hev⟩ := ih (i + 1) out hL (by have := f.1; omega)
      exact ⟨o, hE, Ev.step (fun k => by rw [canon_classes.l1]) (Ev.ret e (Ev.ncond c hev))⟩
theorem cl0 (m : Mk ac nx L) (ns : List ByteArray) : ∀ (d i : Nat) (x : List Int), i + d = ac.length → x.length = ac.length → (∀ p, p < ac.length → x.getD p 0 = if p < i ∧ acF ac p = true then 1 else 0) →
    ∃ out, Lab (EE (acF ac) (dlF nx) L) ac.length out ∧ Ev (fun k => canon_classes.l0 k x ac (ac.length : Int) (i : Int) ns ac nx) out := by
  have n2 := m.n2
  intro d
  induction d with
  | zero =>
    intro i x hi hx h
    have hL : Lab (RR (acF ac) (dlF nx) L 0) ac.length x := by
      refine ⟨hx, fun y hy => ?_, fun p q hp hq => ?_⟩
      · obtain ⟨p, hp, rfl⟩ := List.mem_iff_getElem.1 hy
        rw [← gD hp, h p (by omega)]
        split <;> omega
      · rw [h p hp, h q hq]
        show _ ↔ acF ac p = acF ac q
        cases acF ac p <;> cases acF ac q <;> simp <;> omega
    obtain ⟨out, e, hL2⟩ := zb2 m ns hL
    have := hL2.pos m.n1
    have := zcc out
    obtain ⟨o, hE, hev⟩ := cl1 m ns 257 1 out hL2 (by omega)
    exact ⟨o, hE, Ev.step (fun k => by rw [canon_classes.l0]) (Ev.ncond (by omega) (Ev.step (fun k => by rw [canon_classes.l1]) (Ev.ret e (Ev.ncond (show ¬ ((dd out).length : Int) = 0 by omega) hev))))⟩
  | succ d ih =>
    intro i x hi hx h
    have ii : i < ac.length := by omega
    have wi : wrap64 ((i : Int) + 1) = ((i + 1 : Nat) : Int) := by rw [w64 (by omega) (by omega)]; omega
    by_cases c : rdOf false ac (i : Int) = true
    · obtain ⟨o, hE, hev⟩ := ih (i + 1) (x.set i 1) (by omega) (by rw [List.length_set, hx]) (fun p hp => by
        rw [zaz (by omega), h p hp]
        rw [m.acc ii] at c
        by_cases e : p = i
        · subst e; rw [if_pos rfl, if_pos ⟨by omega, c⟩]
        · rw [if_neg e]
          by_cases e2 : p < i ∧ acF ac p = true
          · rw [if_pos e2, if_pos ⟨by omega, e2.2⟩]
          · rw [if_neg e2, if_neg (fun z => e2 ⟨by omega, z.2⟩)])
      refine ⟨o, hE, Ev.step (fun k => by rw [canon_classes.l0]) (Ev.cond (by omega) (Ev.cond (by omega) (Ev.cond (by omega) (Ev.cond c (Ev.cond (by omega) ?_)))))⟩
      rw [wi, Int.toNat_natCast]; exact hev
    · obtain ⟨o, hE, hev⟩ := ih (i + 1) x (by omega) hx (fun p hp => by
        rw [h p hp]
        rw [m.acc ii] at c
        by_cases e2 : p < i ∧ acF ac p = true
        · rw [if_pos e2, if_pos ⟨by omega, e2.2⟩]
        · rw [if_neg e2, if_neg (fun z => by
            by_cases e : p = i
            · subst e; exact c z.2
            · exact e2 ⟨by omega, z.2⟩)])
      refine ⟨o, hE, Ev.step (fun k => by rw [canon_classes.l0]) (Ev.cond (by omega) (Ev.cond (by omega) (Ev.cond (by omega) (Ev.ncond c ?_))))⟩
      rw [wi]; exact hev
theorem zdi (m : Mk ac nx L) (ns : List ByteArray) : ∃ out, Lab (EE (acF ac) (dlF nx) L) ac.length out ∧ Ev (fun k => canon_classes.f k ns ac nx) out := by
  have n2 := m.n2
  obtain ⟨o, hE, hev⟩ := cl0 m ns ac.length 0 (List.replicate ac.length 0) (by omega) (by simp) (fun p hp => by
    rw [if_neg (fun z => absurd z.1 (by omega)), gD (by simpa using hp), List.getElem_replicate])
  refine ⟨o, hE, Ev.congr (fun k => by rw [canon_classes.f]) (Ev.cond (by omega) (Ev.cond (by omega) ?_))⟩
  rw [Int.toNat_natCast]; exact hev
theorem zd8 {l : List Int} (hl : l.length ≤ 9000000000000000000) {q : Nat} (hq : q < l.length) : ∃ p : Nat, p ≤ q ∧ l.getD p 0 = l.getD q 0 ∧ (∀ p', p' < p → ¬ l.getD p' 0 = l.getD q 0) ∧ Ev (fun k => slices_Index_int_int.f k l (l.getD q 0)) (p : Int) := by
  have key : ∀ (d i : Nat), i + d = q → (∀ p', p' < i → ¬ l.getD p' 0 = l.getD q 0) → ∃ p : Nat, p ≤ q ∧ l.getD p 0 = l.getD q 0 ∧ (∀ p', p' < p → ¬ l.getD p' 0 = l.getD q 0) ∧ Ev (fun k => slices_Index_int_int.l0 k l (l.getD q 0) (l.length : Int) (i : Int)) (p : Int) := by
    intro d
    induction d with
    | zero =>
      intro i hi h
      have e : i = q := by omega
      subst e
      refine ⟨i, Nat.le_refl _, rfl, h, Ev.step (fun k => by rw [slices_Index_int_int.l0]) (Ev.cond (by omega) (Ev.cond (by omega) (Ev.cond (by omega) (Ev.cond ?_ (Ev.fin rfl)))))⟩
      rw [zaf]
    | succ d ih =>
      intro i hi h
      by_cases c : l.getD i 0 = l.getD q 0
      · refine ⟨i, by omega, c, h, Ev.step (fun k => by rw [slices_Index_int_int.l0]) (Ev.cond (by omega) (Ev.cond (by omega) (Ev.cond (by omega) (Ev.cond ?_ (Ev.fin rfl)))))⟩
        rw [zaf, c]
      · obtain ⟨p, h1, h2, h3, h4⟩ := ih (i + 1) (by omega) (fun p' hp' => by
          by_cases e : p' = i
          · subst e; exact c
          · exact h p' (by omega))
        refine ⟨p, h1, h2, h3, Ev.step (fun k => by rw [slices_Index_int_int.l0]) (Ev.cond (by omega) (Ev.cond (by omega) (Ev.cond (by omega) (Ev.ncond ?_ ?_))))⟩
        · rw [zaf]; exact fun e => c e.symm
        · rw [w64 (by omega) (by omega)]; exact h4
  obtain ⟨p, h1, h2, h3, h4⟩ := key q 0 (by omega) (fun p' h => absurd h (by omega))
  exact ⟨p, h1, h2, h3, Ev.congr (fun k => by rw [slices_Index_int_int.f]; rfl) h4⟩
def zez (r : Nat → Nat → Prop) (i : Nat) (l : List Int) : Prop := ∀ q, q < i → ∃ p : Nat, l.getD q 0 = (p : Int) ∧ p ≤ q ∧ r p q ∧ ∀ p', p' < p → ¬ r p' q
theorem zbn {ns : List ByteArray} (hs : SZ ns) (hr : RZ nx) (d : DOk ns ac nx) (m : Mk ac nx L) : ∃ l, Least (EE (acF ac) (dlF nx) L) ac.length l ∧ Ev (fun k => canon_Classes.f k ns ac nx) (l, 0) := by
  have n2 := m.n2
  obtain ⟨c, hE, hev⟩ := zdi m ns
  have hc := hE.len
  have key : ∀ (e i : Nat) (x : List Int), i + e = ac.length → x.length = ac.length → zez (EE (acF ac) (dlF nx) L) i x → ∃ l, Least (EE (acF ac) (dlF nx) L) ac.length l ∧ Ev (fun k => canon_Classes.l0 k c x c (c.length : Int) (i : Int)) (l, 0) := by
    intro e
    induction e with
    | zero =>
      intro i x hi hx h
      have e : i = ac.length := by omega
      subst e
      exact ⟨x, ⟨hx, h⟩, Ev.step (fun k => by rw [canon_Classes.l0]) (Ev.ncond (by omega) (Ev.fin rfl))⟩
    | succ e ih =>
      intro i x hi hx h
      obtain ⟨p, h1, h2, h3, h4⟩ := zd8 (l := c) (by omega) (q := i) (by omega)
      obtain ⟨l, hl, hv⟩ := ih (i + 1) (x.set i (p : Int)) (by omega) (by rw [List.length_set, hx]) (fun q hq => by
        by_cases e : q = i
        · subst e
          refine ⟨p, by rw [zaz (by omega), if_pos rfl], h1, (hE.iff p q (by omega) (by omega)).1 h2, fun p' hp' z => h3 p' hp' ((hE.iff p' q (by omega) (by omega)).2 z)⟩
        · obtain ⟨p2, g⟩ := h q (by omega)
          exact ⟨p2, by rw [zaz (by omega), if_neg e]; exact g.1, g.2⟩)
      refine ⟨l, hl, Ev.step (fun k => by rw [canon_Classes.l0]) (Ev.cond (by omega) (Ev.cond (by omega) (Ev.cond (by omega) ?_)))⟩
      rw [zaf]
      refine Ev.bind h4 (Ev.cond (by omega) ?_)
      rw [w64 (by omega) (by omega), Int.toNat_natCast]; exact hv
  obtain ⟨l, hl, hv⟩ := key ac.length 0 (List.replicate c.length 0) (by omega) (by simp [hc]) (fun q hq => absurd hq (by omega))
  refine ⟨l, hl, Ev.congr (fun k => by rw [canon_Classes.f]) (Ev.bind (zed hs hr d) (Ev.cond rfl (Ev.bind hev ?_)))⟩
  refine Ev.cond (by omega) (Ev.cond (by omega) ?_)
  rw [Int.toNat_natCast]; exact hv
end
end Go.Proofs.Ythgoonohpfoagaa.Pure
namespace Go.Proofs.Ythgoonohpfoagaa.Pure
open Go.RowKit Go.Proofs.YthgoonohpfoagaaW.PrintWords Go.Proofs.YthgoonohpfoagaaW.PrintLast Go.Proofs.YthgoonohpfoagaaW.PrintMore Go.Proofs.Ythgoonohpfoagaa.X
set_option linter.unusedVariables false
section
variable (acc : Nat → Bool) (δ : Nat → Nat → Nat) (L : Nat)
def SS : Nat → Nat → Nat → Prop
  | 0, _, _ => True
  | i + 1, p, q => SS i p q ∧ acc p = acc q ∧ ∀ a, a < L → SS i (δ p a) (δ q a)
end
section
variable {acc : Nat → Bool} {δ : Nat → Nat → Nat} {L : Nat}
theorem SS.symm : ∀ {i p q : Nat}, SS acc δ L i p q → SS acc δ L i q p
  | 0, _, _, _ => trivial
  | _ + 1, _, _, h => ⟨SS.symm h.1, Eq.symm h.2.1, fun a ha => SS.symm (h.2.2 a ha)⟩
theorem SS.trans : ∀ {i p q r : Nat}, SS acc δ L i p q → SS acc δ L i q r → SS acc δ L i p r
  | 0, _, _, _, _, _ => trivial
  | _ + 1, _, _, _, h, k => ⟨SS.trans h.1 k.1, Eq.trans h.2.1 k.2.1, fun a ha => SS.trans (h.2.2 a ha) (k.2.2 a ha)⟩
theorem SS.stays {n : Nat} (hδ : ∀ q, q < n → ∀ a, a < L → δ q a < n) {i : Nat} (h : ∀ p q, p < n → q < n → SS acc δ L i p q → SS acc δ L (i + 1) p q) : ∀ (j p q : Nat), p < n → q < n → SS acc δ L i p q → SS acc δ L (i + j) p q := by
  intro j
  induction j with
  | zero => intro p q _ _ k; exact k
  | succ j ih => intro p q hp hq k; exact ⟨ih p q hp hq k, (h p q hp hq k).2.1, fun a ha => ih _ _ (hδ p hp a ha) (hδ q hq a ha) ((h p q hp hq k).2.2 a ha)⟩
theorem SS.down : ∀ {j i p q : Nat}, SS acc δ L (i + j) p q → SS acc δ L i p q
  | 0, _, _, _, h => h
  | _ + 1, _, _, _, h => SS.down h.1
end
section
variable {ac : List Bool} {nx : List (List Int)} {L : Nat}
end
end Go.Proofs.Ythgoonohpfoagaa.Pure
namespace Go.Proofs.Ythgoonohpfoagaa.Pure
open Go.RowKit Go.Proofs.YthgoonohpfoagaaW.PrintWords Go.Proofs.YthgoonohpfoagaaW.PrintLast Go.Proofs.YthgoonohpfoagaaW.PrintMore Go.Proofs.Ythgoonohpfoagaa.X
set_option linter.unusedVariables false
theorem DOk.mk' {ns : List ByteArray} {ac : List Bool} {nx : List (List Int)} (d : DOk ns ac nx) : Mk ac nx (2 ^ ns.length) := by
  have := d.fr.tr
  have h := pow6 this
  exact ⟨d.ln, d.fr.n1, d.fr.n2, Nat.two_pow_pos _, h, d.rows⟩
end Go.Proofs.Ythgoonohpfoagaa.Pure
namespace Go.Proofs.Ythgoonohpfoagaa.Pure
open Go.RowKit Go.Proofs.YthgoonohpfoagaaW.PrintWords Go.Proofs.YthgoonohpfoagaaW.PrintLast Go.Proofs.YthgoonohpfoagaaW.PrintMore Go.Proofs.Ythgoonohpfoagaa.X
set_option linter.unusedVariables false
section
variable (f : Nat → Nat → Nat) (L : Nat)
def mid (ms : List Nat) (q : Nat) : Nat → List Nat
  | 0 => ms
  | a + 1 => nm (mid ms q a) (f q a)
def bf : Nat → List Nat
  | 0 => [0]
  | j + 1 => mid f (bf j) ((bf j).getD j 0) L
def qa (j : Nat) : Nat := (bf f L j).getD j 0
def rwn (j a : Nat) : Nat := num1 (bf f L (j + 1)) (f (qa f L j) a)
structure End (K : Nat) : Prop where
  pos : 1 ≤ K
  len : (bf f L K).length = K
  on : ∀ i, i < K → i < (bf f L i).length
end
section
variable {f : Nat → Nat → Nat} {L : Nat}
theorem zba (ms : List Nat) (q : Nat) {a b : Nat} (h : a ≤ b) : ∃ t, mid f ms q b = mid f ms q a ++ t := by
  induction b with
  | zero => rw [Nat.le_zero.1 h]; exact ⟨[], by simp⟩
  | succ b ih =>
    by_cases c : a = b + 1
    · rw [c]; exact ⟨[], by simp⟩
    · obtain ⟨t, ht⟩ := ih (by omega)
      obtain ⟨u, hu⟩ := zcb (mid f ms q b) (f q b)
      exact ⟨t ++ u, by rw [mid, hu, ht, List.append_assoc]⟩
theorem zbq {i j : Nat} (h : i ≤ j) : ∃ t, bf f L j = bf f L i ++ t := by
  induction j with
  | zero => rw [Nat.le_zero.1 h]; exact ⟨[], by simp⟩
  | succ j ih =>
    by_cases c : i = j + 1
    · rw [c]; exact ⟨[], by simp⟩
    · obtain ⟨t, ht⟩ := ih (by omega)
      obtain ⟨u, hu⟩ := zba (f := f) (bf f L j) ((bf f L j).getD j 0) (Nat.zero_le L)
      exact ⟨t ++ u, by rw [bf, hu, mid, ht, List.append_assoc]⟩
theorem zbw {ms : List Nat} (h : ms.Nodup) (q : Nat) : ∀ a, (mid f ms q a).Nodup
  | 0 => h
  | a + 1 => zb7 (zbw h q a) _
theorem zbe : ∀ j, (bf f L j).Nodup
  | 0 => by simp [bf]
  | j + 1 => zbw (zbe j) _ _
theorem bf_lt {n : Nat} (n1 : 0 < n) (hf : ∀ q a, q < n → a < L → f q a < n) : ∀ j, ∀ x ∈ bf f L j, x < n := by
  intro j
  induction j with
  | zero => intro x hx; simp [bf] at hx; omega
  | succ j ih =>
    have q1 : (bf f L j).getD j 0 < n := by
      rw [List.getD_eq_getElem?_getD]
      by_cases c : j < (bf f L j).length
      · rw [List.getElem?_eq_getElem c]; exact ih _ (List.getElem_mem c)
      · rw [List.getElem?_eq_none (by omega)]; exact n1
    have key : ∀ a, a ≤ L → ∀ x ∈ mid f (bf f L j) ((bf f L j).getD j 0) a, x < n := by
      intro a
      induction a with
      | zero => intro _ x hx; exact ih x hx
      | succ a ih2 =>
        intro ha x hx
        rcases zax.1 hx with h | h
        · exact ih2 (by omega) x h
        · rw [h]; exact hf _ _ q1 (by omega)
    exact key L (Nat.le_refl _)
theorem zct {n : Nat} (n1 : 0 < n) (hf : ∀ q a, q < n → a < L → f q a < n) (j : Nat) : (bf f L j).length ≤ n := by
  have := zbt (zbe (f := f) (L := L) j) (T := List.range n) (fun x hx => List.mem_range.2 (bf_lt n1 hf j x hx))
  simpa using this
theorem zc7 {i j : Nat} (h : i ≤ j) : (bf f L i).length ≤ (bf f L j).length := by
  obtain ⟨t, ht⟩ := zbq (f := f) (L := L) h
  rw [ht, List.length_append]; omega
theorem zdh {n : Nat} (n1 : 0 < n) (hf : ∀ q a, q < n → a < L → f q a < n) : ∃ K, K ≤ n ∧ End f L K := by
  have key : ∀ (d i : Nat), i + d = n → (∀ i', i' < i → i' < (bf f L i').length) → ∃ K, K ≤ n ∧ End f L K := by
    intro d
    induction d with
    | zero =>
      intro i hi h
      have := zct n1 hf i
      refine ⟨i, by omega, by omega, ?_, h⟩
      have a := h (i - 1) (by omega)
      have b := zc7 (f := f) (L := L) (show i - 1 ≤ i by omega)
      omega
    | succ d ih =>
      intro i hi h
      by_cases c : i < (bf f L i).length
      · exact ih (i + 1) (by omega) (fun i' hi' => by
          by_cases e : i' = i
          · subst e; exact c
          · exact h i' (by omega))
      · have i1 : 1 ≤ i := by
          rcases Nat.eq_zero_or_pos i with z | z
          · subst z; exact absurd (show 0 < (bf f L 0).length from by simp [bf]) c
          · exact z
        refine ⟨i, by omega, i1, ?_, h⟩
        have a := h (i - 1) (by omega)
        have b := zc7 (f := f) (L := L) (show i - 1 ≤ i by omega)
        omega
  exact key n 0 (by omega) (fun i' h => absurd h (by omega))
theorem zbh {l m t : List Nat} (e : l = m ++ t) {j : Nat} (h : j < m.length) : l.getD j 0 = m.getD j 0 := by
  subst e
  rw [List.getD_eq_getElem?_getD, List.getElem?_append_left h, ← List.getD_eq_getElem?_getD]
theorem End.at_ {K : Nat} (E : End f L K) {i j : Nat} (h : j < K) (hi : j ≤ i) (hK : i ≤ K) : (bf f L i).getD j 0 = qa f L j := by
  obtain ⟨t, ht⟩ := zbq (f := f) (L := L) hi
  exact zbh ht (E.on j h)
theorem zc4 (ms : List Nat) (q : Nat) {a b : Nat} (h : a < b) : f q a ∈ mid f ms q b := by
  obtain ⟨t, ht⟩ := zba (f := f) ms q (show a + 1 ≤ b from h)
  rw [ht]
  exact List.mem_append_left _ (zax.2 (.inr rfl))
theorem zbk {j a : Nat} (h : a < L) : f (qa f L j) a ∈ bf f L (j + 1) := zc4 (f := f) (bf f L j) (qa f L j) h
theorem End.mem {K : Nat} (E : End f L K) {j a : Nat} (hj : j < K) (h : a < L) : f (qa f L j) a ∈ bf f L K := by
  obtain ⟨t, ht⟩ := zbq (f := f) (L := L) (show j + 1 ≤ K from hj)
  rw [ht]; exact List.mem_append_left _ (zbk h)
theorem End.num {K : Nat} (E : End f L K) {j a : Nat} (hj : j < K) (h : a < L) : rwn f L j a = num1 (bf f L K) (f (qa f L j) a) := by
  obtain ⟨t, ht⟩ := zbq (f := f) (L := L) (show j + 1 ≤ K from hj)
  rw [ht, zan (zbk h)]; rfl
theorem End.num_lt {K : Nat} (E : End f L K) {j a : Nat} (hj : j < K) (h : a < L) : rwn f L j a < K := by
  rw [E.num hj h]
  have := zam (E.mem hj h)
  rwa [E.len] at this
theorem zbs {α : Type} [DecidableEq α] {ms : List α} {x : α} (h : x ∈ ms) : ms[num1 ms x]'(zam h) = x := List.getElem_idxOf (zam h)
theorem End.qa_mem {K : Nat} (E : End f L K) {j : Nat} (hj : j < K) : qa f L j ∈ bf f L K := by
  have := E.at_ hj (Nat.le_of_lt hj) (Nat.le_refl _)
  rw [List.getD_eq_getElem?_getD, List.getElem?_eq_getElem (by rw [E.len]; exact hj)] at this
  rw [← this]; exact List.getElem_mem _
theorem End.back {K : Nat} (E : End f L K) {j a : Nat} (hj : j < K) (h : a < L) : qa f L (rwn f L j a) = f (qa f L j) a := by
  have m := E.mem hj h
  have e := zbs m
  have lt := E.num_lt hj h
  rw [← E.at_ lt (Nat.le_of_lt lt) (Nat.le_refl _), List.getD_eq_getElem?_getD, List.getElem?_eq_getElem (by rw [E.len]; exact lt)]
  show (bf f L K)[rwn f L j a]'_ = _
  simp only [E.num hj h]
  exact e
theorem bf_led : ∀ j, ∀ x ∈ bf f L j, x = 0 ∨ ∃ i a, i < j ∧ a < L ∧ x = f (qa f L i) a := by
  intro j
  induction j with
  | zero => intro x hx; simp [bf] at hx; exact .inl hx
  | succ j ih =>
    have key : ∀ b, b ≤ L → ∀ x ∈ mid f (bf f L j) (qa f L j) b, x = 0 ∨ ∃ i a, i < j + 1 ∧ a < L ∧ x = f (qa f L i) a := by
      intro b
      induction b with
      | zero =>
        intro _ x hx
        rcases ih x hx with h | ⟨i, a, h1, h2, h3⟩
        · exact .inl h
        · exact .inr ⟨i, a, by omega, h2, h3⟩
      | succ b ih2 =>
        intro hb x hx
        rcases zax.1 hx with h | h
        · exact ih2 (by omega) x h
        · exact .inr ⟨j, b, by omega, by omega, h⟩
    exact key L (Nat.le_refl _)
end
section
variable {f g : Nat → Nat → Nat} {L : Nat} {X : Nat → Nat → Prop}
structure Pair (X : Nat → Nat → Prop) (l m : List Nat) : Prop where
  len : l.length = m.length
  at_ : ∀ i, i < l.length → X (l.getD i 0) (m.getD i 0)
theorem Pair.snoc {l m : List Nat} (h : Pair X l m) {x y : Nat} (k : X x y) : Pair X (l ++ [x]) (m ++ [y]) := by
  refine ⟨by simp [h.len], fun i hi => ?_⟩
  rw [List.length_append, List.length_singleton] at hi
  by_cases c : i < l.length
  · rw [zbh rfl c, zbh rfl (by rw [← h.len]; exact c)]; exact h.at_ i c
  · have e : i = l.length := by omega
    subst e
    have e2 : (m ++ [y]).getD l.length 0 = y := by rw [h.len]; simp [List.getD_eq_getElem?_getD]
    rw [e2]
    simpa [List.getD_eq_getElem?_getD] using k
theorem Pair.mem {l m : List Nat} (h : Pair X l m) (u : ∀ p q y, X p y → X q y → p = q) (v : ∀ p y z, X p y → X p z → y = z) {x y : Nat} (k : X x y) : (x ∈ l ↔ y ∈ m) := by
  constructor
  · intro c
    obtain ⟨i, hi, e⟩ := List.mem_iff_getElem.1 c
    have := h.at_ i hi
    rw [List.getD_eq_getElem?_getD, List.getElem?_eq_getElem hi, Option.getD_some, e, List.getD_eq_getElem?_getD, List.getElem?_eq_getElem (by rw [← h.len]; exact hi), Option.getD_some] at this
    rw [v _ _ _ k this]; exact List.getElem_mem _
  · intro c
    obtain ⟨i, hi, e⟩ := List.mem_iff_getElem.1 c
    have hi' : i < l.length := by rw [h.len]; exact hi
    have := h.at_ i hi'
    rw [List.getD_eq_getElem?_getD, List.getElem?_eq_getElem hi', Option.getD_some, List.getD_eq_getElem?_getD, List.getElem?_eq_getElem hi, Option.getD_some, e] at this
    rw [u _ _ _ k this]; exact List.getElem_mem _
theorem Pair.num {l m : List Nat} (h : Pair X l m) (nl : l.Nodup) (u : ∀ p q y, X p y → X q y → p = q) (v : ∀ p y z, X p y → X p z → y = z) {x y : Nat} (k : X x y) (c : x ∈ l) : num1 l x = num1 m y := by
  have lt := zam c
  have cm := (h.mem u v k).1 c
  have lt2 := zam cm
  have e := zbs c
  have e2 := zbs cm
  have a := h.at_ (num1 m y) (by rw [h.len]; exact lt2)
  rw [List.getD_eq_getElem?_getD, List.getElem?_eq_getElem (by rw [h.len]; exact lt2), Option.getD_some, List.getD_eq_getElem?_getD, List.getElem?_eq_getElem lt2, Option.getD_some, e2] at a
  have s := u _ _ _ k a
  rw [s]
  exact nl.idxOf_getElem _ _
theorem zb9 {l m : List Nat} (h : Pair X l m) (u : ∀ p q y, X p y → X q y → p = q) (v : ∀ p y z, X p y → X p z → y = z) (s : ∀ p y a, X p y → a < L → X (f p a) (g y a)) {q r : Nat} (k : X q r) : ∀ a, a ≤ L → Pair X (mid f l q a) (mid g m r a)
  | 0, _ => h
  | a + 1, ha => by
    have p := zb9 h u v s k a (by omega)
    have x := s q r a k (by omega)
    rw [mid, mid, nm, nm]
    by_cases c : f q a ∈ mid f l q a
    · rw [if_pos c, if_pos ((p.mem u v x).1 c)]; exact p
    · rw [if_neg c, if_neg (fun z => c ((p.mem u v x).2 z))]; exact p.snoc x
theorem zes (u : ∀ p q y, X p y → X q y → p = q) (v : ∀ p y z, X p y → X p z → y = z) (s : ∀ p y a, X p y → a < L → X (f p a) (g y a)) (o : X 0 0) : ∀ {K : Nat}, (∀ i, i < K → i < (bf f L i).length) → ∀ j, j ≤ K → Pair X (bf f L j) (bf g L j) := by
  intro K on j
  induction j with
  | zero => intro _; exact ⟨rfl, fun i hi => by simp [bf] at hi ⊢; subst hi; exact o⟩
  | succ j ih =>
    intro hj
    have p := ih (by omega)
    exact zb9 p u v s (p.at_ j (on j (by omega))) L (Nat.le_refl _)
theorem End.pair {K : Nat} (E : End f L K) (u : ∀ p q y, X p y → X q y → p = q) (v : ∀ p y z, X p y → X p z → y = z) (s : ∀ p y a, X p y → a < L → X (f p a) (g y a)) (o : X 0 0) :
    End g L K ∧ (∀ j, j < K → X (qa f L j) (qa g L j)) ∧ ∀ j a, j < K → a < L → rwn f L j a = rwn g L j a := by
  have P := fun j (hj : j ≤ K) => zes (L := L) u v s o E.on j hj
  have at_ : ∀ j, j < K → X (qa f L j) (qa g L j) := fun j hj => (P j (by omega)).at_ j (E.on j hj)
  refine ⟨⟨E.pos, by rw [← (P K (Nat.le_refl _)).len]; exact E.len, fun i hi => by rw [← (P i (by omega)).len]; exact E.on i hi⟩, at_, fun j a hj ha => ?_⟩
  exact (P (j + 1) hj).num (zbe _) u v (s _ _ a (at_ j hj) ha) (zbk ha)
end
end Go.Proofs.Ythgoonohpfoagaa.Pure
namespace Go.Proofs.Ythgoonohpfoagaa.Pure
open Go.RowKit Go.Proofs.YthgoonohpfoagaaW.PrintWords Go.Proofs.YthgoonohpfoagaaW.PrintLast Go.Proofs.YthgoonohpfoagaaW.PrintMore Go.Proofs.Ythgoonohpfoagaa.X
set_option linter.unusedVariables false
def toZ (l : List Nat) : List Int := l.map (fun x : Nat => (x : Int))
theorem zco {a : Nat} (h : a ≤ 1000) : wrap64 ((a : Int) + 1) = ((a + 1 : Nat) : Int) := by unfold wrap64; omega
theorem zbr (l : List Nat) : (toZ l).length = l.length := by simp [toZ]
theorem toZ_at (l : List Nat) {j : Nat} (h : j < l.length) : rd (toZ l) (j : Int) = ((l.getD j 0 : Nat) : Int) := by
  rw [zaf]
  simp [toZ, List.getD_eq_getElem?_getD, h]
theorem zd7 (l : List Nat) (x : Nat) : toZ l ++ [(x : Int)] = toZ (l ++ [x]) := by simp [toZ]
theorem zdt {α : Type} [DecidableEq α] {ms : List α} {x : α} (h : ¬ x ∈ ms) : num1 (ms ++ [x]) x = ms.length := by rw [num1, List.idxOf_append, if_neg h]; simp
structure Num (n : Nat) (num : List Int) (ms : List Nat) : Prop where
  len : num.length = n
  at_ : ∀ x, x < n → num.getD x 0 = if x ∈ ms then ((num1 ms x : Nat) : Int) else -1
theorem Num.neg {n : Nat} {num : List Int} {ms : List Nat} (h : Num n num ms) {x : Nat} (hx : x < n) : rd num (x : Int) < 0 ↔ ¬ x ∈ ms := by
  rw [zaf, h.at_ x hx]
  split
  · exact ⟨fun z => absurd z (by omega), fun z => absurd ‹_› z⟩
  · exact ⟨fun _ => ‹_›, fun _ => by omega⟩
theorem Num.put {n : Nat} {num : List Int} {ms : List Nat} (h : Num n num ms) {x : Nat} (hx : x < n) (k : ¬ x ∈ ms) : Num n (num.set x (ms.length : Int)) (ms ++ [x]) := by
  refine ⟨by rw [List.length_set, h.len], fun y hy => ?_⟩
  rw [zaz (by rw [h.len]; exact hx)]
  by_cases e : y = x
  · subst e
    rw [if_pos rfl, if_pos (by simp), zdt k]
  · rw [if_neg e, h.at_ y hy]
    by_cases c : y ∈ ms
    · rw [if_pos c, if_pos (by simp [c]), zan c]
    · rw [if_neg c, if_neg (by simp [c, e])]
def fC (cl : List Int) (nx : List (List Int)) (q a : Nat) : Nat := (cl.getD (dlF nx q a) 0).toNat
def acs (ac : List Bool) (f : Nat → Nat → Nat) (L K : Nat) : List Bool := (List.range K).map fun i => acF ac (qa f L i)
def rws (f : Nat → Nat → Nat) (L K : Nat) : List (List Int) := (List.range K).map fun i => (List.range L).map fun a => ((rwn f L i a : Nat) : Int)
theorem zd1 (ac : List Bool) (f : Nat → Nat → Nat) (L K : Nat) : acs ac f L (K + 1) = acs ac f L K ++ [acF ac (qa f L K)] := by simp [acs, List.range_succ]
theorem zej (f : Nat → Nat → Nat) (L K : Nat) : rws f L (K + 1) = rws f L K ++ [(List.range L).map fun a => ((rwn f L K a : Nat) : Int)] := by simp [rws, List.range_succ]
theorem zav (ac : List Bool) (f : Nat → Nat → Nat) (L K : Nat) : (acs ac f L K).length = K := by simp [acs]
theorem zc8 (f : Nat → Nat → Nat) (L K : Nat) : (rws f L K).length = K := by simp [rws]
theorem zcr (g : Nat → Int) {a L : Nat} (h : a < L) : (((List.range a).map g ++ List.replicate (L - a) 0).set a (g a)) = (List.range (a + 1)).map g ++ List.replicate (L - (a + 1)) 0 := by
  obtain ⟨d, rfl⟩ : ∃ d, L = a + 1 + d := ⟨L - a - 1, by omega⟩
  rw [show a + 1 + d - a = d + 1 by omega, show a + 1 + d - (a + 1) = d by omega, List.replicate_succ, List.set_append_right _ _ (by simp), List.range_succ, List.map_append]
  simp
section
variable {ac : List Bool} {nx : List (List Int)} {L : Nat} {cl : List Int}
theorem Least.nat {r : Nat → Nat → Prop} {n : Nat} (h : Least r n cl) {x : Nat} (hx : x < n) : cl.getD x 0 = (((cl.getD x 0).toNat : Nat) : Int) ∧ (cl.getD x 0).toNat ≤ x := by
  obtain ⟨p, e, hp, _⟩ := h.at_ x hx
  rw [e]; simp; exact hp
theorem za3 {r : Nat → Nat → Prop} (m : Mk ac nx L) (h : Least r ac.length cl) {q a : Nat} (hq : q < ac.length) (ha : a < L) : fC cl nx q a < ac.length := by
  have t := m.to hq ha
  have := (h.nat t).2
  unfold fC; omega
theorem fC_rd {r : Nat → Nat → Prop} (m : Mk ac nx L) (h : Least r ac.length cl) {q a : Nat} (hq : q < ac.length) (ha : a < L) : rd cl (rd (rd_L3 nx (q : Int)) (a : Int)) = ((fC cl nx q a : Nat) : Int) := by
  rw [((m.row hq).2 a ha).1, zaf]
  exact (h.nat (m.to hq ha)).1
theorem zex {f : Nat → Nat → Nat} {j a : Nat} (ha : a < L) : rwn f L j a = num1 (mid f (bf f L j) (qa f L j) (a + 1)) (f (qa f L j) a) := by
  obtain ⟨t, ht⟩ := zba (f := f) (bf f L j) (qa f L j) (show a + 1 ≤ L from ha)
  have e : bf f L (j + 1) = mid f (bf f L j) (qa f L j) (a + 1) ++ t := ht
  rw [rwn, e, zan (zc4 (f := f) _ _ (Nat.lt_succ_self a))]
theorem qa_lt {r : Nat → Nat → Prop} (m : Mk ac nx L) (h : Least r ac.length cl) {K : Nat} (E : End (fC cl nx) L K) {j : Nat} (hj : j < K) : qa (fC cl nx) L j < ac.length :=
  bf_lt m.n1 (fun q a hq ha => za3 m h hq ha) K _ (E.qa_mem hj)
theorem End.le {r : Nat → Nat → Prop} (m : Mk ac nx L) (h : Least r ac.length cl) {K : Nat} (E : End (fC cl nx) L K) : K ≤ ac.length := by
  have := zct (L := L) m.n1 (fun q a hq ha => za3 m h hq ha) K
  rw [E.len] at this; exact this
theorem zeg {r : Nat → Nat → Prop} (m : Mk ac nx L) (h : Least r ac.length cl) {ns : List ByteArray} {K : Nat} (E : End (fC cl nx) L K) {j : Nat} (hj : j < K) {o : List ByteArray × List Bool × List (List Int) × Int}
    (fin : ∀ num, Num ac.length num (bf (fC cl nx) L (j + 1)) → Ev (fun k => canon_Minimal.l1 k cl num (toZ (bf (fC cl nx) L (j + 1))) ((j + 1 : Nat) : Int) ns ac nx ns (acs ac (fC cl nx) L (j + 1)) (rws (fC cl nx) L (j + 1))) o) :
    ∀ (e a : Nat) (num row : List Int), a + e = L → Num ac.length num (mid (fC cl nx) (bf (fC cl nx) L j) (qa (fC cl nx) L j) a) → row = (List.range a).map (fun a => ((rwn (fC cl nx) L j a : Nat) : Int)) ++ List.replicate (L - a) 0 →
      Ev (fun k => canon_Minimal.l2 k cl num (toZ (mid (fC cl nx) (bf (fC cl nx) L j) (qa (fC cl nx) L j) a)) (j : Int) ((qa (fC cl nx) L j : Nat) : Int) row (rd_L3 nx ((qa (fC cl nx) L j : Nat) : Int)) (L : Int) (a : Int) ns ac nx ns (acs ac (fC cl nx) L j) (rws (fC cl nx) L j)) o := by
  have n2 := m.n2
  have l2 := m.l2
  have hq := qa_lt m h E hj
  have Kn := E.le m h
  have hc := h.len
  obtain ⟨rl, rt⟩ := m.row hq
  intro e
  induction e with
  | zero =>
    intro a num row ha hn hr
    have e : a = L := by omega
    subst e
    refine Ev.step (fun k => by rw [canon_Minimal.l2]) (Ev.ncond (by omega) (Ev.cond (by omega) (Ev.cond (by omega) (Ev.cond (by rw [zav]; omega) (Ev.cond (by rw [zc8]; omega) ?_)))))
    have f := fin num hn
    rw [zd1, zej] at f
    rw [zco (by omega), m.acc hq, hr, Nat.sub_self, List.replicate_zero, List.append_nil]
    exact f
  | succ e ih =>
    intro a num row ha hn hr
    have al : a < L := by omega
    have t := za3 m h hq al
    have fr := fC_rd m h hq al
    have rlen : row.length = L := by rw [hr]; simp; omega
    have ml : (mid (fC cl nx) (bf (fC cl nx) L j) (qa (fC cl nx) L j) a).length ≤ ac.length := by
      have := zct (L := L) m.n1 (fun q a hq ha => za3 m h hq ha) (j + 1)
      obtain ⟨u, hu⟩ := zba (f := fC cl nx) (bf (fC cl nx) L j) (qa (fC cl nx) L j) (show a ≤ L by omega)
      have e2 : bf (fC cl nx) L (j + 1) = _ := hu
      rw [e2, List.length_append] at this; omega
    have tn := m.to hq al
    have a9 : a ≤ 1000 := by omega
    refine Ev.step (fun k => by rw [canon_Minimal.l2]) (Ev.cond (by omega) (Ev.cond (by omega) (Ev.cond (by omega) ?_)))
    rw [fr, (rt a al).1]
    refine Ev.cond (by omega) (Ev.cond (by omega) (Ev.cond (by omega) (Ev.cond (by rw [hn.len]; omega) ?_)))
    have rm := zex (f := fC cl nx) (j := j) al
    by_cases c : fC cl nx (qa (fC cl nx) L j) a ∈ mid (fC cl nx) (bf (fC cl nx) L j) (qa (fC cl nx) L j) a
    · have em : mid (fC cl nx) (bf (fC cl nx) L j) (qa (fC cl nx) L j) (a + 1) = mid (fC cl nx) (bf (fC cl nx) L j) (qa (fC cl nx) L j) a := by rw [mid, nm, if_pos c]
      refine Ev.ncond (fun z => (hn.neg t).1 z c) (Ev.cond (by omega) ?_)
      have v : rd num ((fC cl nx (qa (fC cl nx) L j) a : Nat) : Int) = ((rwn (fC cl nx) L j a : Nat) : Int) := by rw [zaf, hn.at_ _ t, if_pos c, rm, em]
      rw [v, zco a9, Int.toNat_natCast, ← em]
      exact ih (a + 1) num _ (by omega) (by rw [em]; exact hn) (by rw [hr]; exact zcr (fun a => ((rwn (fC cl nx) L j a : Nat) : Int)) al)
    · have em : mid (fC cl nx) (bf (fC cl nx) L j) (qa (fC cl nx) L j) (a + 1) = mid (fC cl nx) (bf (fC cl nx) L j) (qa (fC cl nx) L j) a ++ [fC cl nx (qa (fC cl nx) L j) a] := by rw [mid, nm, if_neg c]
      refine Ev.cond ((hn.neg t).2 c) ?_
      rw [Int.toNat_natCast, zbr]
      refine Ev.ret rfl (Ev.cond (by omega) (Ev.cond (by omega) ?_))
      have hn' := hn.put t c
      rw [← em] at hn'
      have v : rd (num.set (fC cl nx (qa (fC cl nx) L j) a) ((mid (fC cl nx) (bf (fC cl nx) L j) (qa (fC cl nx) L j) a).length : Int)) ((fC cl nx (qa (fC cl nx) L j) a : Nat) : Int) = ((rwn (fC cl nx) L j a : Nat) : Int) := by
        rw [zaf, hn'.at_ _ t, if_pos (by rw [em]; simp), rm]
      rw [v, zco a9, Int.toNat_natCast, zd7, ← em]
      exact ih (a + 1) _ _ (by omega) hn' (by rw [hr]; exact zcr (fun a => ((rwn (fC cl nx) L j a : Nat) : Int)) al)
theorem zen {r : Nat → Nat → Prop} (m : Mk ac nx L) (h : Least r ac.length cl) {ns : List ByteArray} {K : Nat} (E : End (fC cl nx) L K) : ∀ (d j : Nat) (num : List Int), j + d = K → Num ac.length num (bf (fC cl nx) L j) →
    Ev (fun k => canon_Minimal.l1 k cl num (toZ (bf (fC cl nx) L j)) (j : Int) ns ac nx ns (acs ac (fC cl nx) L j) (rws (fC cl nx) L j)) (ns, acs ac (fC cl nx) L K, rws (fC cl nx) L K, 0) := by
  have n2 := m.n2
  have l2 := m.l2
  have ln := m.len
  intro d
  induction d with
  | zero =>
    intro j num hj hn
    have e : j = K := by omega
    subst e
    exact Ev.step (fun k => by rw [canon_Minimal.l1]) (Ev.ncond (by rw [zbr, E.len]; omega) (Ev.fin rfl))
  | succ d ih =>
    intro j num hj hn
    have jK : j < K := by omega
    have on := E.on j jK
    have hq := qa_lt m h E jK
    have row := zeg m h (ns := ns) E jK (fun num' hn' => ih (j + 1) num' (by omega) hn') L 0 num (List.replicate L 0) (by omega) hn (by simp)
    have rq : rd (toZ (bf (fC cl nx) L j)) (j : Int) = ((qa (fC cl nx) L j : Nat) : Int) := toZ_at _ on
    refine Ev.step (fun k => by rw [canon_Minimal.l1]) (Ev.cond (by rw [zbr]; omega) (Ev.cond (by omega) ?_))
    rw [rq, (m.row hq).1]
    refine Ev.cond (by omega) (Ev.cond (by omega) (Ev.cond (by omega) (Ev.cond (by omega) ?_)))
    rw [Int.toNat_natCast]; exact row
theorem num0 {n : Nat} {x : List Int} (n1 : 1 ≤ n) (hx : x.length = n) (h : ∀ p, p < n → x.getD p 0 = -1) : Num n (x.set 0 0) (bf (fC cl nx) L 0) := by
  refine ⟨by rw [List.length_set, hx], fun y hy => ?_⟩
  rw [zaz (by omega)]
  by_cases e : y = 0
  · subst e; rw [if_pos rfl, if_pos (by simp [bf])]; simp [bf, num1]
  · rw [if_neg e, h y hy, if_neg (by simp [bf, e])]
theorem zc1 {ns : List ByteArray} (hs : SZ ns) (hb : ns.length < 8796093022208) (hr : RZ nx) (d : DOk ns ac nx) (m : Mk ac nx L) {r : Nat → Nat → Prop} (h : Least r ac.length cl) (hC : Ev (fun k => canon_Classes.f k ns ac nx) (cl, 0)) {K : Nat} (E : End (fC cl nx) L K) :
    Ev (fun k => canon_Minimal.f k ns ac nx) (ns, acs ac (fC cl nx) L K, rws (fC cl nx) L K, 0) := by
  have n2 := m.n2
  have n1 := m.n1
  have hc := h.len
  have key : ∀ (e i : Nat) (x : List Int), i + e = ac.length → x.length = ac.length → (∀ p, p < i → x.getD p 0 = -1) → Ev (fun k => canon_Minimal.l0 k cl x (ac.length : Int) (i : Int) ns ac nx) (ns, acs ac (fC cl nx) L K, rws (fC cl nx) L K, 0) := by
    intro e
    induction e with
    | zero =>
      intro i x hi hx hp
      refine Ev.step (fun k => by rw [canon_Minimal.l0]) (Ev.ncond (by omega) (Ev.cond (by omega) ?_))
      refine Ev.ret (show slices_Clone_string_string.f ns = some ns by simp [slices_Clone_string_string.f, hb]) ?_
      exact zen m h (ns := ns) E K 0 (x.set 0 0) (by omega) (num0 n1 hx (fun p hp' => hp p (by omega)))
    | succ e ih =>
      intro i x hi hx hp
      refine Ev.step (fun k => by rw [canon_Minimal.l0]) (Ev.cond (by omega) (Ev.cond (by omega) (Ev.cond (by omega) ?_)))
      rw [w64 (by omega) (by omega), Int.toNat_natCast]
      refine ih (i + 1) _ (by omega) (by rw [List.length_set, hx]) (fun p hp' => ?_)
      rw [zaz (by omega)]
      by_cases c : p = i
      · rw [if_pos c]
      · rw [if_neg c]; exact hp p (by omega)
  refine Ev.congr (fun k => by rw [canon_Minimal.f]) (Ev.bind hC ?_)
  refine Ev.cond rfl ?_
  refine Ev.cond (by show (0 : Int) ≤ (cl.length : Int); omega) (Ev.cond (by show ((cl.length : Int)).toNat ≤ _; omega) (Ev.ret rfl ?_))
  have g := key ac.length 0 (List.replicate cl.length 0) (by omega) (by simp [hc]) (fun p hp => absurd hp (by omega))
  show Ev (fun k => canon_Minimal.l0 k cl (List.replicate ((cl.length : Int)).toNat 0) ((List.replicate ((cl.length : Int)).toNat (0 : Int)).length : Int) 0 ns ac nx) _
  rw [Int.toNat_natCast, List.length_replicate, hc]
  rw [hc] at g; exact g
end
end Go.Proofs.Ythgoonohpfoagaa.Pure
namespace Go.Proofs.Ythgoonohpfoagaa.Pure
open Go.RowKit Go.Proofs.YthgoonohpfoagaaW.PrintWords Go.Proofs.YthgoonohpfoagaaW.PrintLast Go.Proofs.YthgoonohpfoagaaW.PrintMore Go.Proofs.Ythgoonohpfoagaa.X
set_option linter.unusedVariables false
section
variable {acc : Nat → Bool} {δ : Nat → Nat → Nat} {L : Nat}
theorem EE.run {p q : Nat} (h : EE acc δ L p q) : ∀ {w : List Nat}, Let L w → EE acc δ L (runN δ p w) (runN δ q w) := by
  intro w
  induction w generalizing p q with
  | nil => intro _; exact h
  | cons a w ih => intro hw; exact ih (h.next (hw a (by simp))) (fun c hc => hw c (by simp [hc]))
theorem EE.words {p q : Nat} (h : EE acc δ L p q) {w : List Nat} (hw : Let L w) : acc (runN δ p w) = acc (runN δ q w) := (h.run hw) 0
theorem RR.of_words : ∀ {i p q : Nat}, (∀ w, Let L w → acc (runN δ p w) = acc (runN δ q w)) → RR acc δ L i p q
  | 0, _, _, h => h [] (by simp [Let])
  | i + 1, p, q, h => ⟨RR.of_words h, fun a ha => RR.of_words (fun w hw => h (a :: w) (by intro c hc; rcases List.mem_cons.1 hc with rfl | k; exact ha; exact hw c k))⟩
theorem EE.of_words {p q : Nat} (h : ∀ w, Let L w → acc (runN δ p w) = acc (runN δ q w)) : EE acc δ L p q := fun _ => RR.of_words h
end
section
variable {ac : List Bool} {nx : List (List Int)} {L : Nat} {cl : List Int}
theorem min_mk {r : Nat → Nat → Prop} (m : Mk ac nx L) (h : Least r ac.length cl) {K : Nat} (E : End (fC cl nx) L K) : Mk (acs ac (fC cl nx) L K) (rws (fC cl nx) L K) L := by
  have := E.le m h
  have n2 := m.n2
  refine ⟨by rw [zc8, zav], by rw [zav]; exact E.pos, by rw [zav]; omega, m.l1, m.l2, fun row hrow => ?_⟩
  obtain ⟨i, hi, rfl⟩ := List.mem_map.1 hrow
  rw [List.mem_range] at hi
  refine ⟨by simp, fun x hx => ?_⟩
  obtain ⟨a, ha, rfl⟩ := List.mem_map.1 hx
  rw [List.mem_range] at ha
  have := E.num_lt hi ha
  rw [zav]; omega
theorem fC_ee (m : Mk ac nx L) (h : Least (EE (acF ac) (dlF nx) L) ac.length cl) {q a : Nat} (hq : q < ac.length) (ha : a < L) : EE (acF ac) (dlF nx) L (fC cl nx q a) (dlF nx q a) := by
  obtain ⟨p, e, _, ee, _⟩ := h.at_ _ (m.to hq ha)
  have : fC cl nx q a = p := by rw [fC, e]; simp
  rw [this]; exact ee
theorem zev (f : Nat → Nat → Nat) : qa f L 0 = 0 := by simp [qa, bf]
theorem zdr (h : Least (EE (acF ac) (dlF nx) L) ac.length cl) {p q : Nat} (hp : p < ac.length) (hq : q < ac.length) (cp : cl.getD p 0 = (p : Int)) (cq : cl.getD q 0 = (q : Int)) (e : EE (acF ac) (dlF nx) L p q) : p = q := by
  obtain ⟨p0, e1, _, _, f1⟩ := h.at_ p hp
  obtain ⟨q0, e2, _, _, f2⟩ := h.at_ q hq
  have : p0 = p := by omega
  have : q0 = q := by omega
  subst_vars
  have z1 : ¬ p0 < q0 := fun c => f2 p0 c e
  have z2 : ¬ q0 < p0 := fun c => f1 q0 c e.symm
  omega
theorem zdq (m : Mk ac nx L) (h : Least (EE (acF ac) (dlF nx) L) ac.length cl) {q a : Nat} (hq : q < ac.length) (ha : a < L) : cl.getD (fC cl nx q a) 0 = ((fC cl nx q a : Nat) : Int) := by
  obtain ⟨p, e, hp, ee, f⟩ := h.at_ _ (m.to hq ha)
  have t := m.to hq ha
  have z : fC cl nx q a = p := by rw [fC, e]; simp
  rw [z]
  obtain ⟨p2, e2, hp2, ee2, f2⟩ := h.at_ p (by omega)
  have : ¬ p2 < p := fun c => f p2 c (ee2.trans ee)
  have : p2 = p := by omega
  rw [e2, this]
end
structure Canon (ns : List ByteArray) (ac : List Bool) (nx : List (List Int)) (cl : List Int) (K : Nat) : Prop where
  rt : Mk ac nx (2 ^ ns.length)
  least : Least (EE (acF ac) (dlF nx) (2 ^ ns.length)) ac.length cl
  stop : End (fC cl nx) (2 ^ ns.length) K
  cls : Ev (fun k => canon_Classes.f k ns ac nx) (cl, 0)
  min : Ev (fun k => canon_Minimal.f k ns ac nx) (ns, acs ac (fC cl nx) (2 ^ ns.length) K, rws (fC cl nx) (2 ^ ns.length) K, 0)
theorem zd4 {ns : List ByteArray} {ac : List Bool} {nx : List (List Int)} (hs : SZ ns) (hb : ns.length < 8796093022208) (hr : RZ nx) (d : DOk ns ac nx) : ∃ cl K, Canon ns ac nx cl K := by
  have m := d.mk'
  obtain ⟨cl, h, e⟩ := zbn hs hr d m
  obtain ⟨K, _, E⟩ := zdh (f := fC cl nx) (L := 2 ^ ns.length) m.n1 (fun q a hq ha => za3 m h hq ha)
  exact ⟨cl, K, m, h, E, e, zc1 hs hb hr d m h e E⟩
end Go.Proofs.Ythgoonohpfoagaa.Pure
namespace Go.Proofs.Ythgoonohpfoagaa.Pure
open Go.RowKit Go.Proofs.YthgoonohpfoagaaW.PrintWords Go.Proofs.YthgoonohpfoagaaW.PrintLast Go.Proofs.YthgoonohpfoagaaW.PrintMore Go.Proofs.Ythgoonohpfoagaa.X
set_option linter.unusedVariables false
end Go.Proofs.Ythgoonohpfoagaa.Pure
namespace Go.Proofs.Ythgoonohpfoagaa.Pure
open Go.RowKit Go.Proofs.YthgoonohpfoagaaW.PrintWords Go.Proofs.YthgoonohpfoagaaW.PrintLast Go.Proofs.YthgoonohpfoagaaW.PrintMore Go.Proofs.Ythgoonohpfoagaa.X
set_option linter.unusedVariables false
section
variable {ns : List ByteArray} {ac : List Bool} {nx : List (List Int)} {cl : List Int} {K : Nat}
end
end Go.Proofs.Ythgoonohpfoagaa.Pure
namespace Go.Proofs.Ythgoonohpfoagaa.Pure
open Go.RowKit Go.Proofs.YthgoonohpfoagaaW.PrintWords Go.Proofs.YthgoonohpfoagaaW.PrintLast Go.Proofs.YthgoonohpfoagaaW.PrintMore Go.Proofs.Ythgoonohpfoagaa.X
set_option linter.unusedVariables false
structure Flg (n : Nat) (x : List Bool) (ms : List Nat) : Prop where
  len : x.length = n
  at_ : ∀ q, q < n → x.getD q false = decide (q ∈ ms)
theorem Flg.put {n : Nat} {x : List Bool} {ms : List Nat} (h : Flg n x ms) {q : Nat} (hq : q < n) : Flg n (x.set q true) (ms ++ [q]) := by
  refine ⟨by rw [List.length_set, h.len], fun p hp => ?_⟩
  have l := h.len
  by_cases c : p = q
  · subst c
    rw [List.getD_eq_getElem?_getD, List.getElem?_set_self (by omega)]; simp
  · rw [List.getD_eq_getElem?_getD, List.getElem?_set_ne (by omega), ← List.getD_eq_getElem?_getD, h.at_ p hp]
    simp [c]
section
variable {ac : List Bool} {nx : List (List Int)} {L : Nat}
theorem End.words {K : Nat} (E : End (dlF nx) L K) {x : Nat} : x ∈ bf (dlF nx) L K ↔ ∃ w, Let L w ∧ runN (dlF nx) 0 w = x := by
  have led : ∀ i, i < K → ∃ w, Let L w ∧ runN (dlF nx) 0 w = qa (dlF nx) L i := by
    intro i
    induction i using Nat.strongRecOn with
    | ind i ih =>
      intro hi
      have mem : qa (dlF nx) L i ∈ bf (dlF nx) L i := by
        have on := E.on i hi
        rw [qa, List.getD_eq_getElem?_getD, List.getElem?_eq_getElem on]
        exact List.getElem_mem _
      rcases bf_led i _ mem with h | ⟨j, a, hj, ha, h⟩
      · exact ⟨[], by simp [Let], h.symm⟩
      · obtain ⟨w, hw, e⟩ := ih j hj (by omega)
        refine ⟨w ++ [a], ?_, by rw [zdp, e, h]⟩
        intro c hc
        rcases List.mem_append.1 hc with h | h
        · exact hw c h
        · rw [List.mem_singleton.1 h]; exact ha
  constructor
  · intro h
    obtain ⟨i, hi, e⟩ := List.mem_iff_getElem.1 h
    have iK : i < K := by rw [E.len] at hi; exact hi
    obtain ⟨w, hw, e2⟩ := led i iK
    have := E.at_ iK (Nat.le_of_lt iK) (Nat.le_refl _)
    rw [List.getD_eq_getElem?_getD, List.getElem?_eq_getElem hi, Option.getD_some, e] at this
    exact ⟨w, hw, by rw [e2, this]⟩
  · rintro ⟨w, hw, rfl⟩
    have key : ∀ (w : List Nat) (i : Nat), i < K → Let L w → runN (dlF nx) (qa (dlF nx) L i) w ∈ bf (dlF nx) L K := by
      intro w
      induction w with
      | nil => intro i hi _; exact E.qa_mem hi
      | cons a w ih =>
        intro i hi hw
        have ha := hw a (by simp)
        show runN (dlF nx) (dlF nx (qa (dlF nx) L i) a) w ∈ _
        rw [← E.back hi ha]
        exact ih _ (E.num_lt hi ha) (fun c hc => hw c (by simp [hc]))
    have := key w 0 E.pos hw
    rwa [zev] at this
end
end Go.Proofs.Ythgoonohpfoagaa.Pure
namespace Go.Proofs.Ythgoonohpfoagaa.Pure
open Go.RowKit Go.Proofs.YthgoonohpfoagaaW.PrintWords Go.Proofs.YthgoonohpfoagaaW.PrintLast Go.Proofs.YthgoonohpfoagaaW.PrintMore Go.Proofs.Ythgoonohpfoagaa.X
set_option linter.unusedVariables false
section
variable {ac : List Bool} {nx : List (List Int)} {L : Nat}
theorem zd5 {ac' : List Bool} {nx' : List (List Int)} {cl cl' : List Int} (m : Mk ac nx L) (m' : Mk ac' nx' L) (h : Least (EE (acF ac) (dlF nx) L) ac.length cl) (h' : Least (EE (acF ac') (dlF nx') L) ac'.length cl') {K : Nat} (E : End (fC cl nx) L K)
    (o : ∀ w, Let L w → acF ac (runN (dlF nx) 0 w) = acF ac' (runN (dlF nx') 0 w)) : End (fC cl' nx') L K ∧ acs ac' (fC cl' nx') L K = acs ac (fC cl nx) L K ∧ rws (fC cl' nx') L K = rws (fC cl nx) L K := by
  have zero : ∀ {ac : List Bool} {nx : List (List Int)} {cl : List Int}, Mk ac nx L → Least (EE (acF ac) (dlF nx) L) ac.length cl → cl.getD 0 0 = ((0 : Nat) : Int) := by
    intro ac nx cl m h
    obtain ⟨p, e, hp, _⟩ := h.at_ 0 m.n1
    rw [e]; omega
  obtain ⟨a, b, c⟩ := E.pair (g := fC cl' nx') (X := fun p q => (p < ac.length ∧ cl.getD p 0 = (p : Int)) ∧ (q < ac'.length ∧ cl'.getD q 0 = (q : Int)) ∧ ∀ w, Let L w → acF ac (runN (dlF nx) p w) = acF ac' (runN (dlF nx') q w))
    (fun p q y x1 x2 => zdr h x1.1.1 x2.1.1 x1.1.2 x2.1.2 (EE.of_words (fun w hw => (x1.2.2 w hw).trans (x2.2.2 w hw).symm)))
    (fun p y z x1 x2 => zdr h' x1.2.1.1 x2.2.1.1 x1.2.1.2 x2.2.1.2 (EE.of_words (fun w hw => (x1.2.2 w hw).symm.trans (x2.2.2 w hw))))
    (fun p y a x ha => ⟨⟨za3 m h x.1.1 ha, zdq m h x.1.1 ha⟩, ⟨za3 m' h' x.2.1.1 ha, zdq m' h' x.2.1.1 ha⟩, fun w hw => by
      rw [(fC_ee m h x.1.1 ha).words hw, (fC_ee m' h' x.2.1.1 ha).words hw]
      exact x.2.2 (a :: w) (by intro c hc; rcases List.mem_cons.1 hc with rfl | k; exact ha; exact hw c k)⟩)
    ⟨⟨m.n1, zero m h⟩, ⟨m'.n1, zero m' h'⟩, o⟩
  refine ⟨a, ?_, ?_⟩
  · refine List.map_congr_left (fun i hi => ?_)
    rw [List.mem_range] at hi
    exact ((b i hi).2.2 [] (by simp [Let])).symm
  · refine List.map_congr_left (fun i hi => List.map_congr_left (fun x hx => ?_))
    rw [List.mem_range] at hi hx
    rw [c i x hi hx]
end
end Go.Proofs.Ythgoonohpfoagaa.Pure
namespace Go.Proofs.Ythgoonohpfoagaa.Pure
open Go.RowKit Go.Proofs.YthgoonohpfoagaaW.PrintWords Go.Proofs.YthgoonohpfoagaaW.PrintLast Go.Proofs.YthgoonohpfoagaaW.PrintMore Go.Proofs.Ythgoonohpfoagaa.X
set_option linter.unusedVariables false
theorem zdg (l : List ByteArray) (h : l.length ≤ 9000000000000000000) : Ev (fun k => tabardref12_texts.f k l l) true := by
  refine Ev.congr (fun k => by rw [tabardref12_texts.f]) (Ev.cond rfl ?_)
  have key : ∀ (m i : Nat), i + m = l.length → Ev (fun k => tabardref12_texts.l0 k l l (i : Int)) true := by
    intro m
    induction m with
    | zero => intro i hi; exact Ev.step (fun k => by rw [tabardref12_texts.l0]) (Ev.ncond (by omega) (Ev.fin rfl))
    | succ m ih =>
      intro i hi
      refine Ev.step (fun k => by rw [tabardref12_texts.l0]) (Ev.cond (by omega) (Ev.cond (by omega) (Ev.cond (by omega) (Ev.cond rfl ?_))))
      rw [w64 (by omega) (by omega)]
      exact ih (i + 1) (by omega)
  exact key l.length 0 (by omega)
theorem zdf (l : List Bool) (h : l.length ≤ 9000000000000000000) : Ev (fun k => tabardref12_flags.f k l l) true := by
  refine Ev.congr (fun k => by rw [tabardref12_flags.f]) (Ev.cond rfl ?_)
  have key : ∀ (m i : Nat), i + m = l.length → Ev (fun k => tabardref12_flags.l0 k l l (i : Int)) true := by
    intro m
    induction m with
    | zero => intro i hi; exact Ev.step (fun k => by rw [tabardref12_flags.l0]) (Ev.ncond (by omega) (Ev.fin rfl))
    | succ m ih =>
      intro i hi
      refine Ev.step (fun k => by rw [tabardref12_flags.l0]) (Ev.cond (by omega) (Ev.cond (by omega) (Ev.cond (by omega) (Ev.ncond (by simp) ?_))))
      rw [w64 (by omega) (by omega)]
      exact ih (i + 1) (by omega)
  exact key l.length 0 (by omega)
theorem zdx (l : List Int) (h : l.length ≤ 9000000000000000000) : Ev (fun k => tabardref12_ints.f k l l) true := by
  refine Ev.congr (fun k => by rw [tabardref12_ints.f]) (Ev.cond rfl ?_)
  have key : ∀ (m i : Nat), i + m = l.length → Ev (fun k => tabardref12_ints.l0 k l l (i : Int)) true := by
    intro m
    induction m with
    | zero => intro i hi; exact Ev.step (fun k => by rw [tabardref12_ints.l0]) (Ev.ncond (by omega) (Ev.fin rfl))
    | succ m ih =>
      intro i hi
      refine Ev.step (fun k => by rw [tabardref12_ints.l0]) (Ev.cond (by omega) (Ev.cond (by omega) (Ev.cond (by omega) (Ev.cond rfl ?_))))
      rw [w64 (by omega) (by omega)]
      exact ih (i + 1) (by omega)
  exact key l.length 0 (by omega)
theorem zde {ns : List ByteArray} {ac : List Bool} {nx : List (List Int)} (h0 : ns.length ≤ 9000000000000000000) (h1 : ac.length ≤ 9000000000000000000) (h2 : nx.length ≤ 9000000000000000000) (hr : ∀ r ∈ nx, r.length ≤ 9000000000000000000) :
    Ev (fun k => tabardref12_SameDense.f k ns ac nx ns ac nx) true := by
  refine Ev.congr (fun k => by rw [tabardref12_SameDense.f]) (Ev.bind (zdg ns h0) (Ev.cond rfl (Ev.bind (zdf ac h1) (Ev.cond rfl ?_))))
  rw [show ((nx.length : Int) != (nx.length : Int)) = false by simp]
  refine Ev.step (fun k => by rw [tabardref12_SameDense.j0]) (Ev.ncond (by decide) ?_)
  have key : ∀ (m i : Nat), i + m = nx.length → Ev (fun k => tabardref12_SameDense.l0 k (i : Int) ns ac nx ns ac nx) true := by
    intro m
    induction m with
    | zero =>
      intro i hi
      exact Ev.step (fun k => by rw [tabardref12_SameDense.l0]) (Ev.ncond (by omega) (Ev.fin rfl))
    | succ m ih =>
      intro i hi
      have ii : i < nx.length := by omega
      have c := zdx (rd_L3 nx (i : Int)) (by rw [show rd_L3 nx (i : Int) = nx[i] by simp [rd_L3, List.getD_eq_getElem?_getD, ii]]; exact hr _ (List.getElem_mem ii))
      refine Ev.step (fun k => by rw [tabardref12_SameDense.l0]) (Ev.cond (by omega) (Ev.cond (by omega) (Ev.cond (by omega) (Ev.bind c (Ev.cond rfl ?_)))))
      rw [w64 (by omega) (by omega)]
      exact ih (i + 1) (by omega)
  exact key nx.length 0 (by omega)
theorem za7 {a b c : Int} {ns : List ByteArray} {cs : List Int} (h0 : ns.length * 16 ≤ 140737488351232) (h1 : cs.length * 8 ≤ 140737488351232) : tabardlaw14_copied.f a ns cs b c = some (a, ns, cs, b, c) := by
  simp only [tabardlaw14_copied.f, Option.bind_some, List.nil_append, List.length_nil, Nat.zero_add]
  rw [if_pos (by omega), if_pos (by omega)]
def absS : List Int → Int
  | [] => 0
  | a :: l => (a.natAbs : Int) + absS l
theorem zau : ∀ l : List Int, 0 ≤ absS l
  | [] => Int.le_refl _
  | a :: l => by have := zau l; simp only [absS]; omega
theorem abs_eq {a : Int} (h : (Lit.int .i64 a).wf = true) : chk_Abs.f a = if (a.natAbs : Int) ≤ 9223372036854775807 then some ((a.natAbs : Int), 0) else some (0, 10) := by
  obtain ⟨h0, h1⟩ := zay h
  unfold chk_Abs.f chk_Neg.f chk_Sub.f
  by_cases c : a < 0
  · rw [if_pos c, if_pos (by rw [decide_eq_true (show (0 : Int) ≥ 0 by omega), decide_eq_false (show ¬ a ≥ 0 by omega)]; rfl)]
    by_cases m : a = -9223372036854775808
    · subst m; decide +kernel
    · rw [w64 (by omega) (by omega), decide_eq_true (show 0 - a ≥ 0 by omega), decide_eq_true (show (0 : Int) ≥ 0 by omega), if_neg (by decide), if_pos (by omega)]
      simp only [Option.bind_some]
      rw [show (0 : Int) - a = (a.natAbs : Int) by omega]
  · rw [if_neg c, if_pos (by omega), show (a.natAbs : Int) = a by omega]
theorem add_eq {a b : Int} (h0 : 0 ≤ a) (h1 : a ≤ 9223372036854775807) (h2 : 0 ≤ b) (h3 : b ≤ 9223372036854775807) : chk_Add.f a b = if a + b ≤ 9223372036854775807 then some (a + b, 0) else some (0, 10) := by
  unfold chk_Add.f
  rw [decide_eq_true (show a ≥ 0 from h0), decide_eq_true (show b ≥ 0 from h2), if_pos (by decide)]
  by_cases c : a + b ≤ 9223372036854775807
  · rw [w64 (by omega) c, decide_eq_true (show a + b ≥ 0 by omega), if_neg (by decide), if_pos c]
  · rw [if_neg c, decide_eq_false (show ¬ wrap64 (a + b) ≥ 0 by unfold wrap64; omega), if_pos (by decide)]
theorem zee (l : List Int) (hl : l.length ≤ 9000000000000000000) (hw : ∀ x ∈ l, (Lit.int .i64 x).wf = true) :
    Ev (fun k => chk_Total.f k l) (if absS l ≤ 9223372036854775807 then (absS l, 0) else (0, 10)) := by
  refine Ev.congr (fun k => by rw [chk_Total.f]) ?_
  have key : ∀ (m i : Nat) (x : Int), i + m = l.length → 0 ≤ x → x ≤ 9223372036854775807 → Ev (fun k => chk_Total.l0 k x l (l.length : Int) (i : Int)) (if x + absS (l.drop i) ≤ 9223372036854775807 then (x + absS (l.drop i), 0) else (0, 10)) := by
    intro m
    induction m with
    | zero =>
      intro i x hi h0 h1
      rw [List.drop_of_length_le (by omega), absS, Int.add_zero, if_pos h1]
      exact Ev.step (fun k => by rw [chk_Total.l0]) (Ev.ncond (by omega) (Ev.fin rfl))
    | succ m ih =>
      intro i x hi h0 h1
      have ii : i < l.length := by omega
      have hx := hw _ (List.getElem_mem ii)
      have hd : absS (l.drop i) = ((l[i]).natAbs : Int) + absS (l.drop (i + 1)) := by rw [List.drop_eq_getElem_cons ii, absS]
      have h3 := zau (l.drop (i + 1))
      refine Ev.step (fun k => by rw [chk_Total.l0]) (Ev.cond (by omega) (Ev.cond (by omega) (Ev.cond (by omega) ?_)))
      rw [show rd l (i : Int) = l[i] by simp [rd, List.getD_eq_getElem?_getD, ii]]
      have ha := abs_eq hx
      by_cases c : ((l[i]).natAbs : Int) ≤ 9223372036854775807
      · rw [if_pos c] at ha
        refine Ev.ret ha (Ev.cond rfl ?_)
        have hb := add_eq h0 h1 (by omega : (0 : Int) ≤ ((l[i]).natAbs : Int)) c
        by_cases d : x + ((l[i]).natAbs : Int) ≤ 9223372036854775807
        · rw [if_pos d] at hb
          refine Ev.ret hb (Ev.cond rfl ?_)
          rw [w64 (by omega) (by omega), hd, ← Int.add_assoc]
          exact ih (i + 1) _ (by omega) (by omega) d
        · rw [if_neg d] at hb
          refine Ev.ret hb (Ev.ncond (by decide) (Ev.fin ?_))
          rw [if_neg (by omega)]
      · rw [if_neg c] at ha
        refine Ev.ret ha (Ev.ncond (by decide) (Ev.fin ?_))
        rw [if_neg (by omega)]
  have := key l.length 0 0 (by omega) (by omega) (by omega)
  simpa using this
def zae (kind : Int) (names : List ByteArray) (coefs : List Int) (bound md : Int) : Bool :=
  decide (0 ≤ kind) && (decide (kind ≤ 2) && (za9 names && (decide (names.length = coefs.length) && (decide (absS (bound :: coefs) ≤ 9223372036854775807) &&
    if kind = 2 then decide (1 ≤ md) && (bound :: coefs).all (fun c => decide (0 ≤ c) && decide (c < md)) else decide (md = 0)))))
theorem zcy (kind bound md : Int) (names : List ByteArray) (coefs : List Int) (l : List Int) (hl : l.length ≤ 9000000000000000000) :
    ∀ (m i : Nat) (b : Bool), i + m = l.length → Ev (fun k => norm_Check.l0 k b l (l.length : Int) (i : Int) kind names coefs bound md) (if (b && (l.drop i).all (fun c => decide (0 ≤ c) && decide (c < md))) = true then 0 else 3) := by
  intro m
  induction m with
  | zero =>
    intro i b hi
    rw [List.drop_of_length_le (by omega), List.all_nil, Bool.and_true]
    exact Ev.step (fun k => by rw [norm_Check.l0]) (Ev.ncond (by omega) (Ev.ite (fun h => Ev.fin (if_pos h).symm) (fun h => Ev.fin (if_neg h).symm)))
  | succ m ih =>
    intro i b hi
    have ii : i < l.length := by omega
    refine Ev.step (fun k => by rw [norm_Check.l0]) (Ev.cond (by omega) (Ev.cond (by omega) (Ev.cond (by omega) ?_)))
    rw [show rd l (i : Int) = l[i] by simp [rd, List.getD_eq_getElem?_getD, ii], List.drop_eq_getElem_cons ii, List.all_cons, w64 (by omega) (by omega)]
    refine Ev.ite (fun hb => Ev.ite (fun hc => ?_) (fun hc => ?_)) (fun hb => ?_)
    · rw [hb, Bool.true_and, decide_eq_true (show 0 ≤ l[i] from hc), Bool.true_and]
      exact ih (i + 1) _ (by omega)
    · rw [hb, decide_eq_false (show ¬ 0 ≤ l[i] from hc), Bool.false_and, Bool.false_and, Bool.and_false]
      have := ih (i + 1) false (by omega)
      rw [Bool.false_and] at this
      exact this
    · rw [Bool.not_eq_true] at hb
      rw [hb, Bool.false_and]
      have := ih (i + 1) false (by omega)
      rw [Bool.false_and] at this
      exact this
theorem zca (kind bound md : Int) (names : List ByteArray) (coefs : List Int) (h0 : names.length * 16 ≤ 140737488351232) (hs : ∀ x ∈ names, x.size ≤ 9223372036854775807) (h1 : coefs.length * 8 ≤ 140737488351232)
    (hw : ∀ x ∈ coefs, (Lit.int .i64 x).wf = true) (hb : (Lit.int .i64 bound).wf = true) :
    Ev (fun k => norm_Check.f k kind names coefs bound md) (if zae kind names coefs bound md = true then 0 else 3) := by
  have tail : ∀ b : Bool, Ev (fun k => norm_Check.j0 k (bound :: coefs) b kind names coefs bound md) (if (b && if kind = 2 then decide (1 ≤ md) && (bound :: coefs).all (fun c => decide (0 ≤ c) && decide (c < md)) else decide (md = 0)) = true then 0 else 3) := by
    intro b
    refine Ev.step (fun k => by rw [norm_Check.j0]) (Ev.ite (fun hk => ?_) (fun hk => ?_))
    · rw [if_pos hk]
      refine Ev.ite (fun c => ?_) (fun c => ?_)
      · rw [c, Bool.true_and]
        have := zcy kind bound md names coefs (bound :: coefs) (by simp only [List.length_cons]; omega) (bound :: coefs).length 0 (decide (md ≥ 1)) (by omega)
        rw [List.drop_zero] at this
        have this' : Ev (fun k => norm_Check.l0 k (decide (md ≥ 1)) (bound :: coefs) ((bound :: coefs).length : Int) 0 kind names coefs bound md) _ := this
        exact Ev.step (fun k => by rw [norm_Check.j1]) this'
      · rw [Bool.not_eq_true] at c
        rw [c, Bool.false_and]
        have := zcy kind bound md names coefs (bound :: coefs) (by simp only [List.length_cons]; omega) (bound :: coefs).length 0 false (by omega)
        rw [Bool.false_and] at this
        have this' : Ev (fun k => norm_Check.l0 k false (bound :: coefs) ((bound :: coefs).length : Int) 0 kind names coefs bound md) _ := this
        exact Ev.step (fun k => by rw [norm_Check.j1]) this'
    · rw [if_neg hk]
      refine Ev.ite (fun c => ?_) (fun c => ?_)
      · rw [c, Bool.true_and]
        exact Ev.ite (fun d => Ev.fin (if_pos (decide_eq_true d)).symm) (fun d => Ev.fin (if_neg (by simpa using d)).symm)
      · rw [Bool.not_eq_true] at c
        rw [c, Bool.false_and]
        exact Ev.fin rfl
  have no : ∀ {x : Bool}, x = false → Ev (fun k => norm_Check.j0 k (bound :: coefs) false kind names coefs bound md) (if x = true then 0 else 3) := by
    intro x hx
    have := tail false
    rw [Bool.false_and] at this
    rw [hx]; exact this
  refine Ev.congr (fun k => by rw [norm_Check.f]) ?_
  refine Ev.ret rfl ?_
  refine Ev.cond (by simp only [List.length_singleton]; omega) ?_
  refine Ev.ret rfl ?_
  rw [List.singleton_append]
  refine Ev.bind (zee (bound :: coefs) (by simp only [List.length_cons]; omega) (fun x hx => by rcases List.mem_cons.1 hx with rfl | hx; exact hb; exact hw x hx)) ?_
  unfold zae
  refine Ev.ite (fun c0 => Ev.ite (fun c1 => ?_) (fun c1 => no (by rw [decide_eq_false c1]; simp))) (fun c0 => no (by rw [decide_eq_false c0]; simp))
  rw [decide_eq_true (show 0 ≤ kind from c0), decide_eq_true c1, Bool.true_and, Bool.true_and]
  refine Ev.bind (zch names (by omega) hs) (Ev.ite (fun c2 => Ev.ite (fun c3 => ?_) (fun c3 => no (by rw [decide_eq_false (by omega)]; simp))) (fun c2 => no (by rw [Bool.not_eq_true] at c2; rw [c2]; simp)))
  rw [c2, Bool.true_and, decide_eq_true (show names.length = coefs.length by omega), Bool.true_and]
  have := tail ((if absS (bound :: coefs) ≤ 9223372036854775807 then (absS (bound :: coefs), (0 : Int)) else (0, 10)).2 == 0)
  rw [show ((if absS (bound :: coefs) ≤ 9223372036854775807 then (absS (bound :: coefs), (0 : Int)) else (0, 10)).2 == 0) = decide (absS (bound :: coefs) ≤ 9223372036854775807) by
    by_cases d : absS (bound :: coefs) ≤ 9223372036854775807
    · rw [if_pos d, decide_eq_true d]; rfl
    · rw [if_neg d, decide_eq_false d]; rfl] at this
  rw [show ((if absS (bound :: coefs) ≤ 9223372036854775807 then (absS (bound :: coefs), (0 : Int)) else (0, 10)).2 == 0) = decide (absS (bound :: coefs) ≤ 9223372036854775807) by
    by_cases d : absS (bound :: coefs) ≤ 9223372036854775807
    · rw [if_pos d, decide_eq_true d]; rfl
    · rw [if_neg d, decide_eq_false d]; rfl]
  exact this
end Go.Proofs.Ythgoonohpfoagaa.Pure
namespace Go.Proofs.Ythgoonohpfoagaa.Pure
open Go.RowKit Go.Proofs.YthgoonohpfoagaaW.PrintWords Go.Proofs.YthgoonohpfoagaaW.PrintLast Go.Proofs.YthgoonohpfoagaaW.PrintMore Go.Proofs.Ythgoonohpfoagaa.X
set_option linter.unusedVariables false
theorem Ev.fin' {α : Type} {g : Option α} {r : α} (h : g = some r) : Ev (fun _ => g) r := by rw [h]; exact Ev.now r
theorem and1 (a : Int) : Go.bits .and .i64 a 1 = a % 2 := by
  have e1 : (BitVec.ofInt 64 1).toNat = 1 := by decide
  have e2 : (BitVec.ofInt 64 a).toNat = (a % 18446744073709551616).toNat := by rw [BitVec.toNat_ofInt]; rfl
  have h : Go.bits .and .i64 a 1 = IntKind.i64.wrap ((BitVec.ofInt 64 a &&& BitVec.ofInt 64 1).toNat : Int) := rfl
  rw [h, BitVec.toNat_and, e1, e2, Nat.and_one_is_mod, IntKind.wrap_i64]
  omega
def R64 (x : Int) : Prop := -9223372036854775808 ≤ x ∧ x ≤ 9223372036854775807
theorem R64.wf {x : Int} (h : R64 x) : (Lit.int .i64 x).wf = true := by
  obtain ⟨h0, h1⟩ := h
  simp [Lit.wf, IntKind.min, IntKind.max, IntKind.signed, IntKind.bits]; omega
theorem R64.wrap (x : Int) : R64 (wrap64 x) := by unfold R64 wrap64; omega
structure PlOk (kind : Int) (p : atom_Raw.Place) : Prop where
  rest : R64 p.1
  md : R64 p.2.1
  one : p.2.2.2.1 = false → kind = 2 → 1 ≤ p.2.1
theorem PlOk.nothing (kind : Int) : PlOk kind (0, 0, false, true, false) := ⟨⟨by decide, by decide⟩, ⟨by decide, by decide⟩, fun h => by cases h⟩
theorem zbb (r s : Int) : ∃ h, atom_halved.f r s = some h ∧ R64 h := by
  unfold atom_halved.f chk_Half.f
  simp only [Option.bind_some]
  by_cases c : Go.bits .and .i64 r 1 = 0
  · rw [if_pos c]
    by_cases d : Go.bits .and .i64 s 1 = 1
    · rw [if_pos d]; exact ⟨_, rfl, R64.wrap _⟩
    · rw [if_neg d]; exact ⟨_, rfl, R64.wrap _⟩
  · rw [if_neg c]; exact ⟨_, rfl, R64.wrap _⟩
theorem zdn {a m : Int} (ha : R64 a) (h1 : 1 ≤ m) (h2 : m ≤ 9223372036854775807) : ∃ r e, chk_Rest.f a m = some (r, e) ∧ R64 r := by
  unfold chk_Rest.f
  rw [if_neg (by omega), if_neg (by omega)]
  by_cases c : Int.tmod a m < 0
  · rw [if_pos c]; exact ⟨_, _, rfl, R64.wrap _⟩
  · rw [if_neg c]
    have h3 := Int.tmod_lt_of_pos a (show 0 < m by omega)
    exact ⟨_, _, rfl, by omega, by omega⟩
theorem zd6 {kind : Int} (h0 : 0 ≤ kind) (h2 : kind ≤ 2) {p : atom_Raw.Place} (hp : PlOk kind p) (s : Int) : ∃ z, atom_Raw.to kind p s = some z ∧ PlOk kind z := by
  have fin : ∀ z : atom_Raw.Place, atom_next.f kind p.1 p.2.1 p.2.2.1 p.2.2.2.1 p.2.2.2.2 s = some z → PlOk kind z → ∃ z, atom_Raw.to kind p s = some z ∧ PlOk kind z := fun z hz ok => by
    refine ⟨z, ?_, ok⟩
    unfold atom_Raw.to
    rw [hz, Option.bind_some, if_pos ok.rest.wf, if_pos ok.md.wf]
  by_cases n : p.2.2.2.1 = true
  · exact fin (0, 0, false, true, false) (by unfold atom_next.f; rw [if_pos n]) (PlOk.nothing kind)
  · have n' : p.2.2.2.1 = false := by simpa using n
    have z0 : ∀ (x y : Int) (b : Bool), R64 x → R64 y → (kind = 2 → 1 ≤ y) → PlOk kind (x, y, false, false, b) := fun x y b hx hy h => ⟨hx, hy, fun _ => h⟩
    have r0 : R64 0 := ⟨by decide, by decide⟩
    by_cases k0 : kind = 0
    · obtain ⟨h, e, ok⟩ := zbb p.1 s
      exact fin (h, 0, false, false, decide (p.1 ≥ wrap64 (-s))) (by unfold atom_next.f; rw [if_neg n, if_pos k0, e]; rfl) (z0 _ _ _ ok r0 (by omega))
    · by_cases k1 : kind = 1
      · obtain ⟨h, e, ok⟩ := zbb p.1 s
        cases ev : (Go.bits .and .i64 p.1 1 == Go.bits .and .i64 s 1) with
        | true => exact fin (h, 0, false, false, p.1 == wrap64 (-s)) (by unfold atom_next.f; rw [if_neg n, if_neg k0, if_pos k1, atom_even.f, ev, Option.bind_some, if_pos rfl, e]; rfl) (z0 _ _ _ ok r0 (by omega))
        | false => exact fin (0, 0, false, true, false) (by unfold atom_next.f; rw [if_neg n, if_neg k0, if_pos k1, atom_even.f, ev, Option.bind_some, if_neg (by decide)]) (PlOk.nothing kind)
      · have k2 : kind = 2 := by omega
        have m1 := hp.one n' k2
        have m2 := hp.md.2
        have hc : ∃ z, atom_congruent.f p.1 p.2.1 p.2.2.1 p.2.2.2.1 p.2.2.2.2 s = some z ∧ PlOk kind z := by
          unfold atom_congruent.f
          rw [if_neg (by omega)]
          by_cases ce : Go.bits .and .i64 p.2.1 1 = 0
          · rw [if_pos ce]
            rw [and1] at ce
            by_cases cd : Go.bits .and .i64 (wrap64 (p.1 - Int.tmod s p.2.1)) 1 = 0
            · rw [if_pos cd, chk_Half.f, Option.bind_some]
              have hd : Int.tdiv p.2.1 2 = p.2.1 / 2 := Int.tdiv_eq_ediv_of_nonneg (by omega)
              have hw : wrap64 (Int.tdiv p.2.1 2) = p.2.1 / 2 := by rw [hd]; exact w64 (by omega) (by omega)
              rw [hw]
              obtain ⟨r, e, er, ok⟩ := zdn (a := wrap64 (p.1 - Int.tmod s p.2.1) / 2) (m := p.2.1 / 2) (by have := R64.wrap (p.1 - Int.tmod s p.2.1); unfold R64 at this ⊢; omega) (by omega) (by omega)
              rw [er, Option.bind_some]
              exact ⟨_, rfl, z0 _ _ _ ok ⟨by omega, by omega⟩ (fun _ => by omega)⟩
            · rw [if_neg cd]
              exact ⟨_, rfl, PlOk.nothing kind⟩
          · rw [if_neg ce]
            by_cases c1 : wrap64 (p.1 - Int.tmod s p.2.1) < 0
            · rw [if_pos c1]
              by_cases c2 : Go.bits .and .i64 (wrap64 (wrap64 (p.1 - Int.tmod s p.2.1) + p.2.1)) 1 = 0
              · rw [if_pos c2]; exact ⟨_, rfl, z0 _ _ _ (R64.wrap _) hp.md (fun _ => m1)⟩
              · rw [if_neg c2]; exact ⟨_, rfl, z0 _ _ _ (R64.wrap _) hp.md (fun _ => m1)⟩
            · rw [if_neg c1]
              by_cases c2 : Go.bits .and .i64 (wrap64 (p.1 - Int.tmod s p.2.1)) 1 = 0
              · rw [if_pos c2]; exact ⟨_, rfl, z0 _ _ _ (R64.wrap _) hp.md (fun _ => m1)⟩
              · rw [if_neg c2]; exact ⟨_, rfl, z0 _ _ _ (R64.wrap _) hp.md (fun _ => m1)⟩
        obtain ⟨z, hz, ok⟩ := hc
        exact fin z (by unfold atom_next.f; rw [if_neg n, if_neg k0, if_neg k1, hz]; rfl) ok
theorem za6 {kind : Int} (h0 : 0 ≤ kind) (h2 : kind ≤ 2) {p : atom_Raw.Place} (hp : PlOk kind p) : ∀ (l : List Int) (a : Nat) (ps : List atom_Raw.Place) (xs : List Int), (∀ q ∈ ps, PlOk kind q) → ps.length ≤ 256 →
    ∃ b ps' xs', atom_Raw.row kind p l a ps xs = some (b, ps', xs') ∧ xs'.length = xs.length ∧ (b = true → (∀ q ∈ ps', PlOk kind q) ∧ ps'.length ≤ 256 ∧ ps.length ≤ ps'.length)
  | [], a, ps, xs, hps, hl => ⟨true, ps, xs, rfl, rfl, fun _ => ⟨hps, hl, Nat.le_refl _⟩⟩
  | s :: l, a, ps, xs, hps, hl => by
    obtain ⟨z, hz, ok⟩ := zd6 h0 h2 hp s
    rw [atom_Raw.row, hz, Option.bind_some]
    by_cases c : z ∈ ps
    · rw [if_pos c]
      obtain ⟨b, ps', xs', e, h3, h4⟩ := za6 h0 h2 hp l (a + 1) ps (xs.set a ((num1 ps z : Nat) : Int)) hps hl
      exact ⟨b, ps', xs', e, by rw [h3, List.length_set], h4⟩
    · rw [if_neg c]
      by_cases d : ps.length = 256
      · rw [if_pos d]
        exact ⟨false, ps, xs, rfl, rfl, fun h => by cases h⟩
      · rw [if_neg d]
        obtain ⟨b, ps', xs', e, h3, h4⟩ := za6 h0 h2 hp l (a + 1) (ps ++ [z]) (xs.set a ((ps.length : Nat) : Int)) (fun q hq => by
          rcases List.mem_append.1 hq with hq | hq
          · exact hps q hq
          · rw [List.mem_singleton.1 hq]; exact ok) (by simp; omega)
        exact ⟨b, ps', xs', e, by rw [h3, List.length_set], fun hb => by have := h4 hb; exact ⟨this.1, this.2.1, by have := this.2.2; simp at this; omega⟩⟩
theorem zag {α : Type} (d : α) : ∀ (l : List α) (i : Nat), i < l.length → l.getD i d ∈ l := fun l i h => by
  rw [List.getD_eq_getElem?_getD, List.getElem?_eq_getElem h]; exact List.getElem_mem h
theorem zcg {kind : Int} (h0 : 0 ≤ kind) (h2 : kind ≤ 2) (letters : List Int) : ∀ (k q : Nat) (ps : List atom_Raw.Place) (ac : List Bool) (nx : List (List Int)), (∀ p ∈ ps, PlOk kind p) → ps.length ≤ 256 → 257 ≤ q + k → q ≤ ps.length → ac.length = q → nx.length = q → (∀ r ∈ nx, r.length = letters.length) →
    ∃ z, atom_Raw.go kind letters k q ps ac nx = some z ∧ z.2.1.length = z.2.2.length ∧ z.2.1.length ≤ 256 ∧ (∀ r ∈ z.2.2, r.length = letters.length)
  | 0, q, ps, ac, nx, hps, hl, hk, hq, ha, hn, hr => by omega
  | k + 1, q, ps, ac, nx, hps, hl, hk, hq, ha, hn, hr => by
    rw [atom_Raw.go]
    by_cases c : q < ps.length
    · rw [if_pos c]
      obtain ⟨b, ps', xs', e, h3, h4⟩ := za6 h0 h2 (hps _ (zag atom_Raw.noPlace ps q c)) letters 0 ps (List.replicate letters.length 0) hps hl
      rw [e, Option.bind_some]
      cases b with
      | true =>
        rw [if_pos rfl]
        obtain ⟨h5, h6, h7⟩ := h4 rfl
        refine zcg h0 h2 letters k (q + 1) ps' _ _ h5 h6 (by omega) (by omega) (by simp [ha]) (by simp [hn]) (fun r hr' => ?_)
        rcases List.mem_append.1 hr' with hr' | hr'
        · exact hr r hr'
        · rw [List.mem_singleton.1 hr']
          have h3' : xs'.length = (List.replicate letters.length (0 : Int)).length := h3
          rw [List.length_replicate] at h3'
          exact h3'
      | false =>
        rw [if_neg (by simp)]
        exact ⟨_, rfl, by rw [ha, hn], by simp only; omega, hr⟩
    · rw [if_neg c]
      exact ⟨_, rfl, by rw [ha, hn], by simp only; omega, hr⟩
end Go.Proofs.Ythgoonohpfoagaa.Pure
namespace Go.Proofs.Ythgoonohpfoagaa.Pure
open Go.RowKit Go.Proofs.YthgoonohpfoagaaW.PrintWords Go.Proofs.YthgoonohpfoagaaW.PrintLast Go.Proofs.YthgoonohpfoagaaW.PrintMore Go.Proofs.Ythgoonohpfoagaa.X
set_option linter.unusedVariables false
theorem zc9 {α : Type} [DecidableEq α] {ps : List α} {z : α} (h : z ∈ ps) : num1 ps z < ps.length := List.idxOf_lt_length_of_mem h
theorem zd9 {α : Type} [DecidableEq α] {ps : List α} {z : α} (h : z ∈ ps) : ps[num1 ps z]? = some z := by
  rw [List.getElem?_eq_getElem (zc9 h)]
  exact congrArg some (List.getElem_idxOf (zc9 h))
theorem zci {kind : Int} {p : atom_Raw.Place} : ∀ (l : List Int) (a : Nat) (ps : List atom_Raw.Place) (xs : List Int) (ps' : List atom_Raw.Place) (xs' : List Int), atom_Raw.row kind p l a ps xs = some (true, ps', xs') → a + l.length = xs.length →
    (∃ t, ps' = ps ++ t) ∧ xs'.length = xs.length ∧ (∀ i, i < a → xs'[i]? = xs[i]?) ∧
      ∀ j, (h : j < l.length) → ∃ z n, atom_Raw.to kind p l[j] = some z ∧ xs'[a + j]? = some ((n : Nat) : Int) ∧ ps'[n]? = some z
  | [], a, ps, xs, ps', xs', h, hl => by
    rw [atom_Raw.row] at h
    simp only [Option.some.injEq, Prod.mk.injEq, true_and] at h
    obtain ⟨rfl, rfl⟩ := h
    exact ⟨⟨[], by simp⟩, rfl, fun _ _ => rfl, fun j h => absurd h (Nat.not_lt_zero _)⟩
  | s :: l, a, ps, xs, ps', xs', h, hl => by
    rw [atom_Raw.row] at h
    obtain ⟨z, hz, h⟩ := Option.bind_eq_some_iff.mp h
    have hl' : a + 1 + l.length = xs.length := by simp only [List.length_cons] at hl; omega
    have fin : ∀ (q : List atom_Raw.Place) (n : Nat), (∃ t, q = ps ++ t) → q[n]? = some z → atom_Raw.row kind p l (a + 1) q (xs.set a ((n : Nat) : Int)) = some (true, ps', xs') → (∃ t, ps' = ps ++ t) ∧ xs'.length = xs.length ∧ (∀ i, i < a → xs'[i]? = xs[i]?) ∧
        ∀ j, (h : j < (s :: l).length) → ∃ z n, atom_Raw.to kind p (s :: l)[j] = some z ∧ xs'[a + j]? = some ((n : Nat) : Int) ∧ ps'[n]? = some z := by
      rintro q n ⟨t, rfl⟩ hn h
      obtain ⟨⟨t', rfl⟩, h2, h3, h4⟩ := zci l (a + 1) _ _ ps' xs' h (by rw [List.length_set]; exact hl')
      refine ⟨⟨t ++ t', by rw [List.append_assoc]⟩, by rw [h2, List.length_set], fun i hi => by rw [h3 i (by omega), List.getElem?_set_ne (by omega)], fun j hj => ?_⟩
      cases j with
      | zero =>
        refine ⟨z, n, hz, ?_, ?_⟩
        · rw [Nat.add_zero, h3 a (by omega), List.getElem?_set_self (by omega)]
        · rw [List.getElem?_append_left (by have := List.getElem?_eq_some_iff.1 hn; exact this.1)]; exact hn
      | succ j =>
        obtain ⟨z', n', e1, e2, e3⟩ := h4 j (by simp only [List.length_cons] at hj; omega)
        exact ⟨z', n', e1, by rw [show a + (j + 1) = a + 1 + j by omega]; exact e2, e3⟩
    by_cases c : z ∈ ps
    · rw [if_pos c] at h
      exact fin ps _ ⟨[], by simp⟩ (zd9 c) h
    · rw [if_neg c] at h
      by_cases d : ps.length = 256
      · rw [if_pos d] at h
        cases h
      · rw [if_neg d] at h
        exact fin (ps ++ [z]) ps.length ⟨[z], rfl⟩ (by simp) h
def StOk (kind : Int) (letters : List Int) (ps : List atom_Raw.Place) (ac : List Bool) (nx : List (List Int)) (i : Nat) (p : atom_Raw.Place) : Prop :=
  ac[i]? = some p.2.2.2.2 ∧ ∃ r, nx[i]? = some r ∧ r.length = letters.length ∧ ∀ j, (h : j < letters.length) → ∃ z n, atom_Raw.to kind p letters[j] = some z ∧ r[j]? = some ((n : Nat) : Int) ∧ ps[n]? = some z
theorem StOk.more {kind : Int} {letters : List Int} {ps : List atom_Raw.Place} {ac : List Bool} {nx : List (List Int)} {i : Nat} {p : atom_Raw.Place} (h : StOk kind letters ps ac nx i p) (t : List atom_Raw.Place) (b : List Bool) (c : List (List Int)) : StOk kind letters (ps ++ t) (ac ++ b) (nx ++ c) i p := by
  obtain ⟨h1, r, h2, h3, h4⟩ := h
  refine ⟨by rw [List.getElem?_append_left (List.getElem?_eq_some_iff.1 h1).1]; exact h1, r, by rw [List.getElem?_append_left (List.getElem?_eq_some_iff.1 h2).1]; exact h2, h3, fun j hj => ?_⟩
  obtain ⟨z, n, e1, e2, e3⟩ := h4 j hj
  exact ⟨z, n, e1, e2, by rw [List.getElem?_append_left (List.getElem?_eq_some_iff.1 e3).1]; exact e3⟩
theorem zcz {kind : Int} {letters : List Int} : ∀ (k q : Nat) (ps : List atom_Raw.Place) (ac : List Bool) (nx : List (List Int)) (ac' : List Bool) (nx' : List (List Int)), atom_Raw.go kind letters k q ps ac nx = some (true, ac', nx') →
    q ≤ ps.length → ac.length = q → nx.length = q → (∀ i p, i < q → ps[i]? = some p → StOk kind letters ps ac nx i p) →
    ∃ t, ac'.length = (ps ++ t).length ∧ nx'.length = (ps ++ t).length ∧ ∀ i p, (ps ++ t)[i]? = some p → StOk kind letters (ps ++ t) ac' nx' i p
  | 0, q, ps, ac, nx, ac', nx', h, _, _, _, _ => by cases h
  | k + 1, q, ps, ac, nx, ac', nx', h, hq, ha, hn, hi => by
    rw [atom_Raw.go] at h
    by_cases c : q < ps.length
    · rw [if_pos c] at h
      obtain ⟨⟨b, ps1, xs1⟩, hr, h⟩ := Option.bind_eq_some_iff.mp h
      cases b with
      | false => rw [if_neg (by simp)] at h; simp at h
      | true =>
        rw [if_pos rfl] at h
        obtain ⟨⟨t, rfl⟩, h2, _, h4⟩ := zci letters 0 ps _ ps1 xs1 hr (by simp)
        rw [List.length_replicate] at h2
        have pq : (ps ++ t)[q]? = some (ps.getD q atom_Raw.noPlace) := by
          rw [List.getElem?_append_left c, List.getD_eq_getElem?_getD, List.getElem?_eq_getElem c]; rfl
        have tq : ((ps ++ t).getD q atom_Raw.noPlace) = ps.getD q atom_Raw.noPlace := by rw [List.getD_eq_getElem?_getD, pq]; rfl
        obtain ⟨t', e1, e2, e3⟩ := zcz k (q + 1) (ps ++ t) _ _ ac' nx' h (by simp; omega) (by simp [ha]) (by simp [hn]) (fun i p hlt hp => by
          by_cases e : i = q
          · subst e
            rw [pq] at hp
            obtain rfl := Option.some.inj hp
            refine ⟨?_, xs1, ?_, h2, fun j hj => ?_⟩
            · rw [List.getElem?_append_right (by omega), ha, Nat.sub_self]
              exact congrArg (fun z : atom_Raw.Place => some z.2.2.2.2) tq
            · rw [List.getElem?_append_right (by omega), hn, Nat.sub_self]; rfl
            · obtain ⟨z, n, g1, g2, g3⟩ := h4 j hj
              exact ⟨z, n, g1, by rw [Nat.zero_add] at g2; exact g2, g3⟩
          · have hp' : ps[i]? = some p := by rw [List.getElem?_append_left (by omega)] at hp; exact hp
            exact (hi i p (by omega) hp').more t _ _)
        exact ⟨t ++ t', by rw [← List.append_assoc]; exact e1, by rw [← List.append_assoc]; exact e2, by rw [← List.append_assoc]; exact e3⟩
    · rw [if_neg c] at h
      simp only [Option.some.injEq, Prod.mk.injEq, true_and] at h
      obtain ⟨rfl, rfl⟩ := h
      exact ⟨[], by simp; omega, by simp; omega, fun i p hp => by
        rw [List.append_nil] at hp ⊢
        exact hi i p (by have := (List.getElem?_eq_some_iff.1 hp).1; omega) hp⟩
end Go.Proofs.Ythgoonohpfoagaa.Pure
namespace Go.Proofs.Ythgoonohpfoagaa.Pure
open Go.RowKit Go.Proofs.YthgoonohpfoagaaW.PrintWords Go.Proofs.YthgoonohpfoagaaW.PrintLast Go.Proofs.YthgoonohpfoagaaW.PrintMore Go.Proofs.Ythgoonohpfoagaa.X
set_option linter.unusedVariables false
def zaa (kind : Int) (letters : List Int) : List Nat → atom_Raw.Place → Option atom_Raw.Place
  | [], p => some p
  | a :: r, p => (atom_Raw.to kind p (letters.getD a 0)).bind (zaa kind letters r)
end Go.Proofs.Ythgoonohpfoagaa.Pure
namespace Go.Proofs.Ythgoonohpfoagaa.Pure
open Go.RowKit Go.Proofs.YthgoonohpfoagaaW.PrintWords Go.Proofs.YthgoonohpfoagaaW.PrintLast Go.Proofs.YthgoonohpfoagaaW.PrintMore Go.Proofs.Ythgoonohpfoagaa.X
set_option linter.unusedVariables false
def zar : List Int → List Int → List Int
  | acc, [] => acc
  | acc, c :: cs => zar (acc ++ acc.map (· + c)) cs
theorem zbm : ∀ (l acc : List Int) (M : Int), M ≤ 9223372036854775807 → (∀ s ∈ acc, (s.natAbs : Int) + absS l ≤ M) → atom_sums.L acc l = zar acc l ∧ ∀ s ∈ zar acc l, (s.natAbs : Int) ≤ M
  | [], acc, M, hM, h => ⟨rfl, fun s hs => by have := h s hs; simp only [absS] at this; omega⟩
  | c :: l, acc, M, hM, h => by
    have n := zau l
    have e : (acc.map fun s => wrap64 (s + c)) = acc.map (· + c) := List.map_congr_left (fun s hs => by
      have := h s hs; simp only [absS] at this
      exact w64 (by omega) (by omega))
    rw [atom_sums.L, zar, e]
    refine zbm l _ M hM (fun s hs => ?_)
    rcases List.mem_append.1 hs with hs | hs
    · have := h s hs; simp only [absS] at this; omega
    · obtain ⟨t, ht, rfl⟩ := List.mem_map.1 hs
      have := h t ht; simp only [absS] at this; omega
theorem zbv {r s : Int} (hr : R64 r) (hs : R64 s) : atom_halved.f r s = some ((r - s) / 2) := by
  obtain ⟨r0, r1⟩ := hr
  obtain ⟨s0, s1⟩ := hs
  unfold atom_halved.f chk_Half.f
  simp only [Option.bind_some, and1]
  by_cases c : r % 2 = 0
  · rw [if_pos c]
    by_cases d : s % 2 = 1
    · rw [if_pos d, w64 (x := r / 2 - s / 2) (by omega) (by omega), w64 (by omega) (by omega)]
      exact congrArg some (by omega)
    · rw [if_neg d, w64 (by omega) (by omega)]
      exact congrArg some (by omega)
  · rw [if_neg c, w64 (by omega) (by omega)]
    exact congrArg some (by omega)
end Go.Proofs.Ythgoonohpfoagaa.Pure
namespace Go.Proofs.Ythgoonohpfoagaa.Pure
open Go.RowKit Go.Proofs.YthgoonohpfoagaaW.PrintWords Go.Proofs.YthgoonohpfoagaaW.PrintLast Go.Proofs.YthgoonohpfoagaaW.PrintMore Go.Proofs.Ythgoonohpfoagaa.X
set_option linter.unusedVariables false
theorem zcj {n : Nat} (h : n ≤ 6) : Ev (fun k => tabardref12_Letters.f k (n : Int)) ((2 ^ n : Nat) : Int) := by
  have all : ∀ i : Fin 7, tabardref12_Letters.f 9 ((i.val : Nat) : Int) = some ((2 ^ i.val : Nat) : Int) := by decide +kernel
  exact Ev.of (fun k => tabardref12_Letters.mono _ k) (all ⟨n, by omega⟩)
theorem zdk {ns : List ByteArray} {ac : List Bool} {nx : List (List Int)} (h6 : ns.length ≤ 6) (hr : Ev (fun k => tabardref04_Rises.f k ns) true) (h1 : 1 ≤ ac.length) (h2 : ac.length ≤ 256) (hn : nx.length = ac.length)
    (hx : ∀ r ∈ nx, r.length = 2 ^ ns.length ∧ ∀ x ∈ r, 0 ≤ x ∧ x < (ac.length : Int)) : Ev (fun k => tabardref12_Right.f k ns ac nx) true := by
  have hf : Ev (fun k => tabardref12_Frame.f k ns (ac.length : Int)) true := by
    refine Ev.congr (fun k => by rw [tabardref12_Frame.f]) (Ev.cond (by omega) (Ev.bind hr ?_))
    refine Ev.cond rfl ?_
    refine Ev.cond (by omega) (Ev.fin ?_)
    exact decide_eq_true (by omega)
  have p6 : 2 ^ ns.length ≤ 64 := Nat.le_trans (Nat.pow_le_pow_right (by decide) h6) (by decide)
  refine Ev.congr (fun k => by rw [tabardref12_Right.f]) (Ev.bind hf (Ev.cond rfl ?_))
  rw [show ((nx.length : Int) != (ac.length : Int)) = false by simp [hn]]
  refine Ev.step (fun k => by rw [tabardref12_Right.j0]) (Ev.ncond (by decide) ?_)
  have key : ∀ (m i : Nat), i + m = ac.length → Ev (fun k => tabardref12_Right.l0 k (ac.length : Int) (i : Int) ns ac nx) true := by
    intro m
    induction m with
    | zero => intro i hi; exact Ev.step (fun k => by rw [tabardref12_Right.l0]) (Ev.ncond (by omega) (Ev.fin rfl))
    | succ m ih =>
      intro i hi
      have ii : i < nx.length := by omega
      obtain ⟨rl, rx⟩ := hx _ (List.getElem_mem ii)
      have e : rd_L3 nx (i : Int) = nx[i] := by simp [rd_L3, List.getD_eq_getElem?_getD, ii]
      refine Ev.step (fun k => by rw [tabardref12_Right.l0]) (Ev.cond (by omega) (Ev.cond (by omega) (Ev.cond (by omega) (Ev.bind (zcj h6) ?_))))
      refine Ev.cond (by rw [e, rl]) ?_
      have inner : ∀ (s j : Nat), j + s = nx[i].length → Ev (fun k => tabardref12_Right.l1 k (ac.length : Int) (i : Int) (j : Int) ns ac nx) true := by
        intro s
        induction s with
        | zero =>
          intro j hj
          have nxt := ih (i + 1) (by omega)
          refine Ev.step (fun k => by rw [tabardref12_Right.l1]) (Ev.cond (by omega) (Ev.cond (by omega) (Ev.ncond (by rw [e]; omega) ?_)))
          rw [w64 (by omega) (by omega)]
          exact nxt
        | succ s ihs =>
          intro j hj
          have jj : j < nx[i].length := by omega
          have xx := rx _ (List.getElem_mem jj)
          have e2 : rd nx[i] (j : Int) = nx[i][j] := by simp [rd, List.getD_eq_getElem?_getD, jj]
          refine Ev.step (fun k => by rw [tabardref12_Right.l1]) (Ev.cond (by omega) (Ev.cond (by omega) (Ev.cond (by rw [e]; omega) (Ev.cond (by omega) ?_))))
          rw [e, e2, w64 (by omega) (by omega)]
          exact Ev.ncond (by omega) (Ev.ncond (by omega) (ihs (j + 1) (by omega)))
      exact inner nx[i].length 0 (by omega)
  exact key ac.length 0 (by omega)
end Go.Proofs.Ythgoonohpfoagaa.Pure
namespace Go.Proofs.Ythgoonohpfoagaa.Pure
open Go.RowKit Go.Proofs.YthgoonohpfoagaaW.PrintWords Go.Proofs.YthgoonohpfoagaaW.PrintLast Go.Proofs.YthgoonohpfoagaaW.PrintMore Go.Proofs.Ythgoonohpfoagaa.X
set_option linter.unusedVariables false
theorem to_le {p : atom_Raw.Place} {s : Int} (hr : R64 p.1) (hs : R64 s) (hm : s ≠ -9223372036854775808) (hp : p.2.2.2.1 = false) : atom_Raw.to 0 p s = some ((p.1 - s) / 2, 0, false, false, decide (p.1 ≥ -s)) := by
  have h := zbv hr hs
  obtain ⟨r0, r1⟩ := hr
  obtain ⟨s0, s1⟩ := hs
  unfold atom_Raw.to atom_next.f
  rw [if_neg (by rw [hp]; decide), if_pos rfl, h, Option.bind_some, Option.bind_some, if_pos (R64.wf ⟨by omega, by omega⟩), if_pos (show (Lit.int .i64 0).wf = true by decide), w64 (by omega) (by omega)]
theorem to_eq {p : atom_Raw.Place} {s : Int} (hr : R64 p.1) (hs : R64 s) (hm : s ≠ -9223372036854775808) (hp : p.2.2.2.1 = false) : atom_Raw.to 1 p s = some (if p.1 % 2 = s % 2 then ((p.1 - s) / 2, 0, false, false, decide (p.1 = -s)) else (0, 0, false, true, false)) := by
  have h := zbv hr hs
  obtain ⟨r0, r1⟩ := hr
  obtain ⟨s0, s1⟩ := hs
  unfold atom_Raw.to atom_next.f
  rw [if_neg (by rw [hp]; decide), if_neg (by decide), if_pos rfl, atom_even.f, Option.bind_some, and1, and1]
  by_cases c : p.1 % 2 = s % 2
  · rw [if_pos c, if_pos (by rw [c]; simp), h, Option.bind_some, Option.bind_some, if_pos (R64.wf ⟨by omega, by omega⟩), if_pos (show (Lit.int .i64 0).wf = true by decide), w64 (by omega) (by omega)]
    exact congrArg some (by simp only [Prod.mk.injEq, true_and]; exact Bool.eq_iff_iff.2 (by simp))
  · rw [if_neg c, if_neg (by simpa using c), Option.bind_some, if_pos (show (Lit.int .i64 0).wf = true by decide), if_pos (show (Lit.int .i64 0).wf = true by decide)]
theorem ze3 (kind : Int) (s : Int) : atom_Raw.to kind (0, 0, false, true, false) s = some (0, 0, false, true, false) := by
  unfold atom_Raw.to atom_next.f
  rw [if_pos rfl]; rfl
theorem zc0 {r s : Int} (hr : R64 r) (hs : R64 s) : R64 ((r - s) / 2) := by
  obtain ⟨r0, r1⟩ := hr; obtain ⟨s0, s1⟩ := hs
  exact ⟨by omega, by omega⟩
end Go.Proofs.Ythgoonohpfoagaa.Pure
namespace Go.Proofs.Ythgoonohpfoagaa.Pure
open Go.RowKit Go.Proofs.YthgoonohpfoagaaW.PrintWords Go.Proofs.YthgoonohpfoagaaW.PrintLast Go.Proofs.YthgoonohpfoagaaW.PrintMore Go.Proofs.Ythgoonohpfoagaa.X
set_option linter.unusedVariables false
def zaj (kind : Int) (S : List Int) (bound md : Int) (ac : List Bool) (nx : List (List Int)) : Prop :=
  ∃ ps : List atom_Raw.Place, ps[0]? = some (bound, md, true, false, false) ∧ ac.length = ps.length ∧ nx.length = ps.length ∧ ps.length ≤ 256 ∧ ∀ i p, ps[i]? = some p → StOk kind S ps ac nx i p
theorem zap : ∀ (l acc : List Int), (atom_sums.L acc l).length = acc.length * 2 ^ l.length := by
  intro l
  induction l with
  | nil => intro acc; simp [atom_sums.L]
  | cons c l ih => intro acc; rw [atom_sums.L, ih, List.length_append, List.length_map, List.length_cons, Nat.pow_succ, Nat.add_mul, Nat.mul_comm (2 ^ l.length) 2, ← Nat.mul_assoc, Nat.mul_two, Nat.add_mul]
theorem zbx {kind bound md : Int} {names : List ByteArray} {coefs : List Int} (h0 : names.length * 16 ≤ 140737488351232) (hs : ∀ x ∈ names, x.size ≤ 9223372036854775807) (h1 : coefs.length * 8 ≤ 140737488351232)
    (hw : ∀ x ∈ coefs, (Lit.int .i64 x).wf = true) (hb : (Lit.int .i64 bound).wf = true) (hm : (Lit.int .i64 md).wf = true) :
    ∃ tr ac nx er, Ev (fun k => atom_Raw.f k kind names coefs bound md) (tr, ac, nx, er) ∧ (er = 0 → zae kind names coefs bound md = true ∧ names.length ≤ 6 ∧ tr = names ∧ zaj kind (atom_sums.L [0] coefs) bound md ac nx) ∧
      (zae kind names coefs bound md = true → names.length ≤ 6 → er = 0 ∨ er = 140) ∧ (er ≠ 0 → ac = []) := by
  have hc := zca kind bound md names coefs h0 hs h1 hw hb
  cases g : zae kind names coefs bound md with
  | false =>
    rw [g, if_neg (by decide)] at hc
    exact ⟨[], [], [], 3, Ev.congr (fun k => by rw [atom_Raw.f]) (Ev.bind hc (Ev.ncond (show ¬ ((3 : Int) = 0) by decide) (Ev.fin rfl))), (fun h => by cases h), (fun h => by cases h), fun _ => rfl⟩
  | true =>
    rw [g, if_pos rfl] at hc
    have g' := g
    unfold zae at g'
    simp only [Bool.and_eq_true, decide_eq_true_eq] at g'
    obtain ⟨g0, g1, g2, g3, g4, g5⟩ := g'
    by_cases c : (6 : Int) < (names.length : Int)
    · exact ⟨[], [], [], 150, Ev.congr (fun k => by rw [atom_Raw.f]) (Ev.bind hc (Ev.cond rfl (Ev.cond c (Ev.fin rfl)))), (fun h => by cases h), (fun _ h => by omega), fun _ => rfl⟩
    · have hcl : slices_Clone_string_string.f names = some names := by unfold slices_Clone_string_string.f; exact if_pos (by omega)
      have hsl : atom_sums.f coefs = some (atom_sums.L [0] coefs) := by unfold atom_sums.f; exact if_pos (by omega)
      have ok : PlOk kind (bound, md, true, false, false) := ⟨zay hb, zay hm, fun _ hk => by
        rw [if_pos hk, Bool.and_eq_true, decide_eq_true_eq] at g5
        exact g5.1⟩
      obtain ⟨⟨z1, z2, z3⟩, hz, y1, y2, y3⟩ := zcg g0 g1 (atom_sums.L [0] coefs) 257 0 [(bound, md, true, false, false)] [] [] (fun p hp => by rw [List.mem_singleton.1 hp]; exact ok) (by simp) (by omega) (by simp) rfl rfl (fun r h => by cases h)
      cases z1 with
      | true =>
        obtain ⟨t, e1, e2, e3⟩ := zcz 257 0 [(bound, md, true, false, false)] [] [] z2 z3 hz (by simp) rfl rfl (fun i p h => by omega)
        refine ⟨names, z2, z3, 0, Ev.congr (fun k => by rw [atom_Raw.f]) (Ev.bind hc (Ev.cond rfl (Ev.ncond c (Ev.fin' ?_)))), (fun _ => ⟨rfl, by omega, rfl, _, rfl, e1, e2, by rw [← e1]; exact y2, e3⟩), (fun _ _ => .inl rfl), fun h => absurd rfl h⟩
        rw [hcl, Option.bind_some, hsl, Option.bind_some, if_pos hb, if_pos hm, hz, Option.bind_some, if_pos rfl]
      | false =>
        refine ⟨[], [], [], 140, Ev.congr (fun k => by rw [atom_Raw.f]) (Ev.bind hc (Ev.cond rfl (Ev.ncond c (Ev.fin' ?_)))), (fun h => by cases h), (fun _ _ => .inr rfl), fun _ => rfl⟩
        rw [hcl, Option.bind_some, hsl, Option.bind_some, if_pos hb, if_pos hm, hz, Option.bind_some, if_neg (by simp)]
theorem zaj.one {kind bound md : Int} {S : List Int} {ac : List Bool} {nx : List (List Int)} (m : zaj kind S bound md ac nx) : 1 ≤ ac.length ∧ ac.length ≤ 256 ∧ nx.length = ac.length ∧ ∀ r ∈ nx, r.length = S.length ∧ ∀ x ∈ r, 0 ≤ x ∧ x < (ac.length : Int) := by
  obtain ⟨ps, p0, pa, pn, p6, ok⟩ := m
  have l0 := (List.getElem?_eq_some_iff.1 p0).1
  refine ⟨by omega, by omega, by omega, fun r hr => ?_⟩
  obtain ⟨i, hi, rfl⟩ := List.getElem_of_mem hr
  have hi' : i < ps.length := by omega
  obtain ⟨_, r', e1, e2, e3⟩ := ok i ps[i] (List.getElem?_eq_getElem hi')
  rw [List.getElem?_eq_getElem hi] at e1
  obtain rfl := Option.some.inj e1
  refine ⟨e2, fun x hx => ?_⟩
  obtain ⟨j, hj, rfl⟩ := List.getElem_of_mem hx
  obtain ⟨z, n, _, g2, g3⟩ := e3 j (by omega)
  rw [List.getElem?_eq_getElem hj] at g2
  have := Option.some.inj g2
  have := (List.getElem?_eq_some_iff.1 g3).1
  omega
theorem zaj.right {kind bound md : Int} {S : List Int} {ac : List Bool} {nx : List (List Int)} {ns : List ByteArray} (m : zaj kind S bound md ac nx) (h6 : ns.length ≤ 6) (hs : ∀ x ∈ ns, x.size ≤ 9223372036854775807) (hr : za9 ns = true) (hS : S.length = 2 ^ ns.length) :
    Ev (fun k => tabardref12_Right.f k ns ac nx) true := by
  obtain ⟨h1, h2, h3, h4⟩ := m.one
  refine zdk h6 ?_ h1 h2 h3 (fun r hr => by rw [← hS]; exact h4 r hr)
  have := zd0 ns (by omega) hs
  rw [hr] at this
  exact this
end Go.Proofs.Ythgoonohpfoagaa.Pure
namespace Go.Proofs.Ythgoonohpfoagaa.Pure
open Go.RowKit Go.Proofs.YthgoonohpfoagaaW.PrintWords Go.Proofs.YthgoonohpfoagaaW.PrintLast Go.Proofs.YthgoonohpfoagaaW.PrintMore Go.Proofs.Ythgoonohpfoagaa.X
set_option linter.unusedVariables false
def dgt (v : Int) (i : Nat) : Nat := (v / 2 ^ i % 2).toNat
end Go.Proofs.Ythgoonohpfoagaa.Pure
namespace Go.Proofs.Ythgoonohpfoagaa.Pure
open Go.RowKit Go.Proofs.YthgoonohpfoagaaW.PrintWords Go.Proofs.YthgoonohpfoagaaW.PrintLast Go.Proofs.YthgoonohpfoagaaW.PrintMore Go.Proofs.Ythgoonohpfoagaa.X
set_option linter.unusedVariables false
def lt (l : List Int) : Nat → Nat → Nat
  | 0, _ => 0
  | t + 1, i => lt l t i + dgt (rd l (t : Int)) i * 2 ^ t
end Go.Proofs.Ythgoonohpfoagaa.Pure
namespace Go.Proofs.Ythgoonohpfoagaa.Pure
open Go.RowKit Go.Proofs.YthgoonohpfoagaaW.PrintWords Go.Proofs.YthgoonohpfoagaaW.PrintLast Go.Proofs.YthgoonohpfoagaaW.PrintMore Go.Proofs.Ythgoonohpfoagaa.X
set_option linter.unusedVariables false
def Bits (l : List Int) : Prop := ∀ d ∈ l, d = 0 ∨ d = 1
instance (l : List Int) : Decidable (Bits l) := inferInstanceAs (Decidable (∀ d ∈ l, d = 0 ∨ d = 1))
end Go.Proofs.Ythgoonohpfoagaa.Pure
namespace Go.Proofs.Ythgoonohpfoagaa.Pure
open Go.RowKit Go.Proofs.YthgoonohpfoagaaW.PrintWords Go.Proofs.YthgoonohpfoagaaW.PrintLast Go.Proofs.YthgoonohpfoagaaW.PrintMore Go.Proofs.Ythgoonohpfoagaa.X
set_option linter.unusedVariables false
def ze5 (w : List Int) (k : Nat) : Prop := ∀ a ∈ w, 0 ≤ a ∧ a < ((2 ^ k : Nat) : Int)
instance (w : List Int) (k : Nat) : Decidable (ze5 w k) := inferInstanceAs (Decidable (∀ a ∈ w, 0 ≤ a ∧ a < ((2 ^ k : Nat) : Int)))
end Go.Proofs.Ythgoonohpfoagaa.Pure
namespace Go.Proofs.Ythgoonohpfoagaa.Pure
open Go.RowKit Go.Proofs.YthgoonohpfoagaaW.PrintWords Go.Proofs.YthgoonohpfoagaaW.PrintLast Go.Proofs.YthgoonohpfoagaaW.PrintMore Go.Proofs.Ythgoonohpfoagaa.X
set_option linter.unusedVariables false
def mag : List Int → Int
  | [] => 0
  | d :: l => d + 4294967296 * mag l
def DG (l : List Int) : Prop := ∀ d ∈ l, 0 ≤ d ∧ d < 4294967296
def NZ (l : List Int) : Prop := ∀ d, l.getLast? = some d → d ≠ 0
theorem DG.set {l : List Int} (h : DG l) (i : Nat) {x : Int} (h0 : 0 ≤ x) (h1 : x < 4294967296) : DG (l.set i x) := fun d hd => by
  rcases List.mem_or_eq_of_mem_set hd with hd | rfl
  · exact h d hd
  · exact ⟨h0, h1⟩
structure Wh (b : Bool) (l : List Int) (x : Int) (m : Nat) : Prop where
  dg : DG l
  nz : NZ l
  ln : l.length ≤ m
  eq : x = if b = true then -(mag l) else mag l
  zr : l = [] → b = false
theorem Wh.more {b : Bool} {l : List Int} {x : Int} {m n : Nat} (h : Wh b l x m) (hn : m ≤ n) : Wh b l x n := ⟨h.dg, h.nz, Nat.le_trans h.ln hn, h.eq, h.zr⟩
end Go.Proofs.Ythgoonohpfoagaa.Pure
namespace Go.Proofs.Ythgoonohpfoagaa.Pure
open Go.RowKit Go.Proofs.YthgoonohpfoagaaW.PrintWords Go.Proofs.YthgoonohpfoagaaW.PrintLast Go.Proofs.YthgoonohpfoagaaW.PrintMore Go.Proofs.Ythgoonohpfoagaa.X
set_option linter.unusedVariables false
def wsum (f : Nat → Int) : List Nat → Int
  | [] => 0
  | [a] => -(f a)
  | a :: b :: r => f a + 2 * wsum f (b :: r)
theorem zb6 (f g : Nat → Int) (c : Int) : ∀ v : List Nat, wsum (fun a => c * f a + g a) v = c * wsum f v + wsum g v
  | [] => by simp [wsum]
  | [a] => by simp only [wsum]; rw [Int.mul_neg]; try omega
  | a :: b :: r => by
    simp only [wsum]
    rw [zb6 f g c (b :: r), Int.mul_add, Int.mul_add, ← Int.mul_assoc, ← Int.mul_assoc, Int.mul_comm 2 c]
    omega
theorem zal {f g : Nat → Int} : ∀ {v : List Nat}, (∀ a ∈ v, f a = g a) → wsum f v = wsum g v
  | [], _ => rfl
  | [a], h => by simp only [wsum]; rw [h a List.mem_cons_self]
  | a :: b :: r, h => by
    simp only [wsum]
    rw [h a List.mem_cons_self, zal (v := b :: r) (fun x hx => h x (List.mem_cons_of_mem _ hx))]
theorem zc3 {S : List Int} (hS : ∀ s ∈ S, (s.natAbs : Int) ≤ 9223372036854775807) : ∀ (v : List Nat) (p q : atom_Raw.Place), v ≠ [] → (∀ a ∈ v, a < S.length) → p.2.2.2.1 = false → R64 p.1 → zaa 0 S v p = some q → q.2.2.2.2 = decide (wsum (fun a => S.getD a 0) v ≤ p.1)
  | [], _, _, h, _, _, _, _ => absurd rfl h
  | [a], p, q, _, hv, hn, hr, h => by
    have sb := hS _ (zag 0 S a (hv a List.mem_cons_self))
    have e := to_le hr (s := S.getD a 0) ⟨by omega, by omega⟩ (by omega) hn
    rw [zaa, e, Option.bind_some, zaa] at h
    obtain rfl := Option.some.inj h
    show decide (p.1 ≥ -(S.getD a 0)) = decide (wsum (fun a => S.getD a 0) [a] ≤ p.1)
    exact decide_eq_decide.2 (by simp only [wsum] <;> (try omega))
  | a :: b :: r, p, q, _, hv, hn, hr, h => by
    have sb := hS _ (zag 0 S a (hv a List.mem_cons_self))
    have sr : R64 (S.getD a 0) := ⟨by omega, by omega⟩
    have e := to_le hr sr (by omega) hn
    rw [zaa, e, Option.bind_some] at h
    have := zc3 hS (b :: r) _ q (by simp) (fun x hx => hv x (List.mem_cons_of_mem _ hx)) rfl (zc0 hr sr) h
    rw [this]
    exact decide_eq_decide.2 (by simp only [wsum]; omega)
theorem zao (kind : Int) (S : List Int) : ∀ v, zaa kind S v (0, 0, false, true, false) = some (0, 0, false, true, false)
  | [] => rfl
  | a :: v => by rw [zaa, ze3, Option.bind_some]; exact zao kind S v
theorem zc5 {S : List Int} (hS : ∀ s ∈ S, (s.natAbs : Int) ≤ 9223372036854775807) : ∀ (v : List Nat) (p q : atom_Raw.Place), v ≠ [] → (∀ a ∈ v, a < S.length) → p.2.2.2.1 = false → R64 p.1 → zaa 1 S v p = some q → q.2.2.2.2 = decide (wsum (fun a => S.getD a 0) v = p.1)
  | [], _, _, h, _, _, _, _ => absurd rfl h
  | [a], p, q, _, hv, hn, hr, h => by
    have sb := hS _ (zag 0 S a (hv a List.mem_cons_self))
    have e := to_eq hr (s := S.getD a 0) ⟨by omega, by omega⟩ (by omega) hn
    rw [zaa, e, Option.bind_some, zaa] at h
    obtain rfl := Option.some.inj h
    by_cases c : p.1 % 2 = S.getD a 0 % 2
    · rw [if_pos c]
      show decide (p.1 = -(S.getD a 0)) = decide (wsum (fun a => S.getD a 0) [a] = p.1)
      exact decide_eq_decide.2 (by simp only [wsum]; omega)
    · rw [if_neg c]
      show false = decide (wsum (fun a => S.getD a 0) [a] = p.1)
      exact (decide_eq_false (by simp only [wsum]; omega)).symm
  | a :: b :: r, p, q, _, hv, hn, hr, h => by
    have sb := hS _ (zag 0 S a (hv a List.mem_cons_self))
    have sr : R64 (S.getD a 0) := ⟨by omega, by omega⟩
    have e := to_eq hr sr (by omega) hn
    rw [zaa, e, Option.bind_some] at h
    by_cases c : p.1 % 2 = S.getD a 0 % 2
    · rw [if_pos c] at h
      have := zc5 hS (b :: r) _ q (by simp) (fun x hx => hv x (List.mem_cons_of_mem _ hx)) rfl (zc0 hr sr) h
      rw [this]
      exact decide_eq_decide.2 (by simp only [wsum]; omega)
    · rw [if_neg c, zao] at h
      obtain rfl := Option.some.inj h
      show false = decide (wsum (fun a => S.getD a 0) (a :: b :: r) = p.1)
      exact (decide_eq_false (by simp only [wsum]; omega)).symm
theorem zel {a m : Int} (h0 : R64 a) (h1 : 1 ≤ m) (h2 : m ≤ 9223372036854775807) : ∃ e, chk_Rest.f a m = some (a % m, e) := by
  obtain ⟨a0, a1⟩ := h0
  have q0 := Int.emod_nonneg a (show m ≠ 0 by omega)
  have q1 := Int.emod_lt_of_pos a (show 0 < m by omega)
  unfold chk_Rest.f
  rw [if_neg (by omega), if_neg (by omega)]
  by_cases c : 0 ≤ a
  · have e := Int.tmod_eq_emod_of_nonneg (b := m) c
    rw [e, if_neg (by omega)]
    exact ⟨_, rfl⟩
  · have n0 : Int.tmod a m = -(Int.tmod (-a) m) := by rw [Int.neg_tmod, Int.neg_neg]
    have n1 := Int.tmod_eq_emod_of_nonneg (a := -a) (b := m) (by omega)
    have n2 := Int.emod_nonneg (-a) (show m ≠ 0 by omega)
    have n3 := Int.emod_lt_of_pos (-a) (show 0 < m by omega)
    have n4 : m ∣ (a + (-a) % m) := ⟨-((-a) / m), by have := Int.mul_ediv_add_emod (-a) m; rw [Int.mul_neg]; omega⟩
    by_cases z : (-a) % m = 0
    · have t0 : Int.tmod a m = 0 := by omega
      have : a % m = 0 := by rw [z, Int.add_zero] at n4; exact Int.emod_eq_zero_of_dvd n4
      rw [t0, if_neg (by omega), this]
      exact ⟨_, rfl⟩
    · have t0 : Int.tmod a m = -((-a) % m) := by omega
      have t1 : a % m = m - (-a) % m := by
        obtain ⟨k, hk⟩ := n4
        have : a = (m - (-a) % m) + m * (k - 1) := by rw [Int.mul_sub, ← hk]; omega
        exact (congrArg (· % m) this).trans (by rw [Int.add_mul_emod_self_left, Int.emod_eq_of_lt (by omega) (by omega)])
      rw [t0, if_pos (by omega), w64 (by omega) (by omega), t1]
      exact ⟨_, by rw [show -(-a % m) + m = m - -a % m by omega]⟩
structure PlMod (p : atom_Raw.Place) : Prop where
  no : p.2.2.2.1 = false
  r0 : 0 ≤ p.1
  r1 : p.1 < p.2.1
  m2 : p.2.1 ≤ 9223372036854775807
theorem zak {m a b : Int} (h : m ∣ a - b) : m ∣ a ↔ m ∣ b :=
  ⟨fun k => by have := Int.dvd_sub k h; rwa [Int.sub_sub_self] at this, fun k => by have := Int.dvd_add h k; rwa [Int.sub_add_cancel] at this⟩
theorem zbf (s m : Int) : m ∣ s - s % m := ⟨s / m, by have := Int.mul_ediv_add_emod s m; omega⟩
theorem zbc {m x : Int} (h : m % 2 = 1) : m ∣ 2 * x ↔ m ∣ x := by
  constructor
  · intro k
    have k2 : m ∣ 2 * x * (m / 2) := Int.dvd_mul_of_dvd_left k
    have e : x = m * x - 2 * x * (m / 2) := by
      have : m = 2 * (m / 2) + 1 := by omega
      generalize m / 2 = j at *
      subst this
      grind
    rw [e]
    exact Int.dvd_sub (Int.dvd_mul_right m x) k2
  · intro k
    rw [Int.mul_comm]
    exact Int.dvd_mul_of_dvd_left k
theorem zcd {m x : Int} (h : m % 2 = 0) : m ∣ 2 * x ↔ m / 2 ∣ x := by
  have e : m = 2 * (m / 2) := by omega
  constructor
  · rintro ⟨k, hk⟩
    refine ⟨k, ?_⟩
    rw [e, Int.mul_assoc] at hk
    omega
  · rintro ⟨k, hk⟩
    refine ⟨k, ?_⟩
    rw [hk, ← Int.mul_assoc, ← e]
theorem zat {m x : Int} (h0 : 0 ≤ x) (h1 : x < m) (h : m ∣ x) : x = 0 := by
  by_cases c : x = 0
  · exact c
  · have := Int.le_of_dvd (by omega) h; omega
theorem zd2 {r t m s : Int} (m1 : 1 ≤ m) (r0 : 0 ≤ r) (r1 : r < m) (ht : t = s % m) : (r == (m - t) % m) = decide (m ∣ (r + s)) := by
  have t0 := Int.emod_nonneg s (show m ≠ 0 by omega)
  have t1 := Int.emod_lt_of_pos s (show 0 < m by omega)
  rw [Bool.eq_iff_iff, beq_iff_eq, decide_eq_true_iff]
  have sh : m ∣ (r + s) ↔ m ∣ (r + t) := zak (by rw [ht, show r + s - (r + s % m) = s - s % m by omega]; exact zbf s m)
  rw [sh]
  by_cases z : t = 0
  · rw [z, Int.sub_zero, Int.emod_self, Int.add_zero]
    constructor
    · intro h; rw [h]; exact Int.dvd_zero m
    · intro h; exact zat r0 r1 h
  · rw [Int.emod_eq_of_lt (by omega) (by omega)]
    constructor
    · intro h; rw [h, Int.sub_add_cancel]; exact Int.dvd_refl m
    · intro h
      have h2 : m ∣ (r + t - m) := Int.dvd_sub h (Int.dvd_refl m)
      by_cases c : 0 ≤ r + t - m
      · have := zat c (by omega) h2; omega
      · have h3 : m ∣ (r + t) := h
        have := zat (by omega) (by omega) h3; omega
theorem zdm {p : atom_Raw.Place} {s : Int} (h : PlMod p) (s0 : 0 ≤ s) (s1 : s ≤ 9223372036854775807) : ∃ z, atom_Raw.to 2 p s = some z ∧
    (z = (0, 0, false, true, false) ∧ (∀ W : Int, ¬ p.2.1 ∣ (s + 2 * W - p.1)) ∨ PlMod z ∧ z.2.2.2.2 = decide (p.2.1 ∣ (p.1 + s)) ∧ ∀ W : Int, p.2.1 ∣ (s + 2 * W - p.1) ↔ z.2.1 ∣ (W - z.1)) := by
  obtain ⟨no, r0, r1, m2⟩ := h
  obtain ⟨r, m, x1, x2, x3⟩ := p
  simp only at no r0 r1 m2 ⊢
  obtain ⟨t, ht⟩ : ∃ t, t = s % m := ⟨_, rfl⟩
  have t0 := Int.emod_nonneg s (show m ≠ 0 by omega)
  have t1 := Int.emod_lt_of_pos s (show 0 < m by omega)
  rw [← ht] at t0 t1
  have tm : Int.tmod s m = t := by rw [Int.tmod_eq_emod_of_nonneg s0, ht]
  have td : Int.tdiv m 2 = m / 2 := Int.tdiv_eq_ediv_of_nonneg (by omega)
  have tell := zd2 (t := t) (s := s) (by omega) r0 r1 ht
  have tw : Int.tmod (wrap64 (m - t)) m = (m - t) % m := by rw [w64 (by omega) (by omega), Int.tmod_eq_emod_of_nonneg (by omega)]
  have sh : ∀ W : Int, m ∣ (s + 2 * W - r) ↔ m ∣ (2 * W - (r - t)) := fun W => zak (by rw [ht, show s + 2 * W - r - (2 * W - (r - s % m)) = s - s % m by omega]; exact zbf s m)
  have red : ∀ z : atom_Raw.Place, atom_congruent.f r m x1 x2 x3 s = some z → R64 z.1 → R64 z.2.1 → atom_Raw.to 2 (r, m, x1, x2, x3) s = some z := fun z hz a b => by
    unfold atom_Raw.to atom_next.f
    rw [if_neg (show ¬ x2 = true by rw [no]; decide), if_neg (by decide), if_neg (by decide)]
    simp only
    rw [hz]
    simp only [Option.bind_some]
    rw [if_pos a.wf, if_pos b.wf]
  have wd : wrap64 (r - t) = r - t := w64 (by omega) (by omega)
  by_cases me : m % 2 = 0
  · by_cases de : (r - t) % 2 = 0
    · have hr : ∃ e, chk_Rest.f ((r - t) / 2) (m / 2) = some ((r - t) / 2 % (m / 2), e) := zel ⟨by omega, by omega⟩ (by omega) (by omega)
      obtain ⟨e, he⟩ := hr
      have q0 := Int.emod_nonneg ((r - t) / 2) (show m / 2 ≠ 0 by omega)
      have q1 := Int.emod_lt_of_pos ((r - t) / 2) (show 0 < m / 2 by omega)
      refine ⟨((r - t) / 2 % (m / 2), m / 2, false, false, r == (m - t) % m), red _ ?_ ⟨by simp only; omega, by simp only; omega⟩ ⟨by simp only; omega, by simp only; omega⟩, .inr ⟨⟨rfl, q0, q1, by simp only; omega⟩, tell, fun W => ?_⟩⟩
      · unfold atom_congruent.f
        rw [if_neg (by omega), and1, if_pos me, tm, wd, and1, if_pos de, chk_Half.f, Option.bind_some, td, w64 (x := m / 2) (by omega) (by omega), he, Option.bind_some, tw]
      · rw [sh, show 2 * W - (r - t) = 2 * (W - (r - t) / 2) by omega, zcd me]
        exact zak (by
          rw [show W - (r - t) / 2 - (W - (r - t) / 2 % (m / 2)) = -((r - t) / 2 - (r - t) / 2 % (m / 2)) by omega, Int.dvd_neg]
          exact zbf _ _)
    · refine ⟨(0, 0, false, true, false), red _ ?_ ⟨by decide, by decide⟩ ⟨by decide, by decide⟩, .inl ⟨rfl, fun W hk => ?_⟩⟩
      · unfold atom_congruent.f
        rw [if_neg (by omega), and1, if_pos me, tm, wd, and1, if_neg de]
      · rw [sh] at hk
        obtain ⟨k, hk⟩ := hk
        have e : m = 2 * (m / 2) := by omega
        rw [e, Int.mul_assoc] at hk
        omega
  · have me' : m % 2 = 1 := by omega
    have fin : ∀ d : Int, 0 ≤ d → d < m → (m ∣ (d - (r - t))) → ∃ z : atom_Raw.Place, z = (if d % 2 = 0 then d / 2 else (d + m) / 2, m, false, false, r == (m - t) % m) ∧ (PlMod z ∧ z.2.2.2.2 = decide (m ∣ (r + s)) ∧ ∀ W : Int, m ∣ (s + 2 * W - r) ↔ z.2.1 ∣ (W - z.1)) := by
      intro d d0 d1 hd
      have sd : ∀ W : Int, m ∣ (2 * W - (r - t)) ↔ m ∣ (2 * W - d) := fun W => zak (by rw [show 2 * W - (r - t) - (2 * W - d) = d - (r - t) by omega]; exact hd)
      refine ⟨_, rfl, ⟨rfl, ?_, ?_, m2⟩, tell, fun W => ?_⟩
      · show 0 ≤ (if d % 2 = 0 then d / 2 else (d + m) / 2); split <;> omega
      · show (if d % 2 = 0 then d / 2 else (d + m) / 2) < m; split <;> omega
      · show m ∣ (s + 2 * W - r) ↔ m ∣ (W - (if d % 2 = 0 then d / 2 else (d + m) / 2))
        rw [sh, sd]
        split
        · rw [show 2 * W - d = 2 * (W - d / 2) by omega, zbc me']
        · rw [← zbc me' (x := W - (d + m) / 2)]
          exact zak (by rw [show 2 * W - d - 2 * (W - (d + m) / 2) = m by omega]; exact Int.dvd_refl m)
    by_cases dn : r - t < 0
    · obtain ⟨z, hz, ok⟩ := fin (r - t + m) (by omega) (by omega) (by rw [show r - t + m - (r - t) = m by omega]; exact Int.dvd_refl m)
      refine ⟨z, red _ ?_ ⟨by have := ok.1.r0; omega, by have := ok.1.r1; have := ok.1.m2; omega⟩ ⟨by have := ok.1.r0; have := ok.1.r1; omega, ok.1.m2⟩, .inr ok⟩
      unfold atom_congruent.f
      rw [if_neg (by omega), and1, if_neg me, tm, wd, if_pos dn, w64 (x := r - t + m) (by omega) (by omega), and1, td, tw, Int.tdiv_eq_ediv_of_nonneg (by omega : 0 ≤ r - t + m), w64 (x := (r - t + m) / 2) (by omega) (by omega), w64 (x := m / 2) (by omega) (by omega), w64 (x := (r - t + m) / 2 + m / 2) (by omega) (by omega), hz]
      by_cases de : (r - t + m) % 2 = 0
      · rw [if_pos de, if_pos de]
      · rw [if_neg de, if_neg de, w64 (by omega) (by omega)]
        exact congrArg some (congrArg (fun q : Int => (q, m, false, false, r == (m - t) % m)) (by omega))
    · obtain ⟨z, hz, ok⟩ := fin (r - t) (by omega) (by omega) (by rw [Int.sub_self]; exact Int.dvd_zero m)
      refine ⟨z, red _ ?_ ⟨by have := ok.1.r0; omega, by have := ok.1.r1; have := ok.1.m2; omega⟩ ⟨by have := ok.1.r0; have := ok.1.r1; omega, ok.1.m2⟩, .inr ok⟩
      unfold atom_congruent.f
      rw [if_neg (by omega), and1, if_neg me, tm, wd, if_neg dn, and1, td, tw, Int.tdiv_eq_ediv_of_nonneg (by omega : 0 ≤ r - t), w64 (x := (r - t) / 2) (by omega) (by omega), w64 (x := m / 2) (by omega) (by omega), w64 (x := (r - t) / 2 + m / 2) (by omega) (by omega), hz]
      by_cases de : (r - t) % 2 = 0
      · rw [if_pos de, if_pos de]
      · rw [if_neg de, if_neg de, w64 (by omega) (by omega)]
        exact congrArg some (congrArg (fun q : Int => (q, m, false, false, r == (m - t) % m)) (by omega))
theorem zbz {S : List Int} (hS : ∀ s ∈ S, 0 ≤ s ∧ s ≤ 9223372036854775807) : ∀ (v : List Nat) (p q : atom_Raw.Place), v ≠ [] → (∀ a ∈ v, a < S.length) → PlMod p → zaa 2 S v p = some q → q.2.2.2.2 = decide (p.2.1 ∣ (wsum (fun a => S.getD a 0) v - p.1))
  | [], _, _, h, _, _, _ => absurd rfl h
  | [a], p, q, _, hv, hp, h => by
    have sb := hS _ (zag 0 S a (hv a List.mem_cons_self))
    obtain ⟨z, e, hz⟩ := zdm hp sb.1 sb.2
    rw [zaa, e, Option.bind_some, zaa] at h
    obtain rfl := Option.some.inj h
    have key : p.2.1 ∣ (wsum (fun a => S.getD a 0) [a] - p.1) ↔ p.2.1 ∣ (p.1 + S.getD a 0) := by
      simp only [wsum]
      rw [show -(S.getD a 0) - p.1 = -(p.1 + S.getD a 0) by omega, Int.dvd_neg]
    rcases hz with ⟨rfl, hz⟩ | ⟨_, hz, _⟩
    · have := hz (-(S.getD a 0))
      show false = decide _
      exact (decide_eq_false (fun k => this (by
        simp only [wsum] at k
        rw [show S.getD a 0 + 2 * -(S.getD a 0) - p.1 = -(S.getD a 0) - p.1 by omega]
        exact k))).symm
    · rw [hz]
      exact decide_eq_decide.2 key.symm
  | a :: b :: r, p, q, _, hv, hp, h => by
    have sb := hS _ (zag 0 S a (hv a List.mem_cons_self))
    obtain ⟨z, e, hz⟩ := zdm hp sb.1 sb.2
    rw [zaa, e, Option.bind_some] at h
    rcases hz with ⟨rfl, hz⟩ | ⟨ok, _, hz⟩
    · rw [zao] at h
      obtain rfl := Option.some.inj h
      show false = decide _
      refine (decide_eq_false (fun k => hz (wsum (fun a => S.getD a 0) (b :: r)) ?_)).symm
      simp only [wsum] at k
      exact k
    · rw [zbz hS (b :: r) z q (by simp) (fun x hx => hv x (List.mem_cons_of_mem _ hx)) ok h]
      exact decide_eq_decide.2 (by rw [← hz]; simp only [wsum])
end Go.Proofs.Ythgoonohpfoagaa.Pure
namespace Go.Proofs.Ythgoonohpfoagaa.Pure
open Go.RowKit Go.Proofs.YthgoonohpfoagaaW.PrintWords Go.Proofs.YthgoonohpfoagaaW.PrintLast Go.Proofs.YthgoonohpfoagaaW.PrintMore Go.Proofs.Ythgoonohpfoagaa.X
set_option linter.unusedVariables false
def lsum : List Int → Nat → Int
  | [], _ => 0
  | c :: cs, a => c * ((a % 2 : Nat) : Int) + lsum cs (a / 2)
theorem zcq : ∀ (l acc : List Int) (a : Nat), 0 < acc.length → a < acc.length * 2 ^ l.length → (zar acc l).getD a 0 = acc.getD (a % acc.length) 0 + lsum l (a / acc.length)
  | [], acc, a, h0, h => by
    rw [List.length_nil, Nat.pow_zero, Nat.mul_one] at h
    rw [zar, lsum, Nat.mod_eq_of_lt h, Int.add_zero]
  | c :: cs, acc, a, h0, h => by
    have len : (acc ++ acc.map (· + c)).length = acc.length * 2 := by simp; omega
    rw [zar, zcq cs (acc ++ acc.map (· + c)) a (by rw [len]; omega) (by rw [len, Nat.mul_assoc, ← Nat.pow_succ']; exact h), len, lsum, Nat.mod_mul, Nat.div_div_eq_div_mul]
    have hr := Nat.mod_lt a h0
    generalize a % acc.length = r at *
    generalize lsum cs (a / (acc.length * 2)) = z
    rcases Nat.mod_two_eq_zero_or_one (a / acc.length) with e | e
    · rw [e, Nat.mul_zero, Nat.add_zero, List.getD_eq_getElem?_getD, List.getElem?_append_left hr, ← List.getD_eq_getElem?_getD]
      simp
    · rw [e, Nat.mul_one, List.getD_eq_getElem?_getD, List.getElem?_append_right (by omega), List.getElem?_map, show r + acc.length - acc.length = r by omega, List.getD_eq_getElem?_getD, List.getElem?_eq_getElem hr]
      simp; omega
theorem zbl {coefs : List Int} {a : Nat} (h : a < 2 ^ coefs.length) : (zar [0] coefs).getD a 0 = lsum coefs a := by
  have := zcq coefs [0] a (by simp) (by simpa using h)
  rw [this]
  simp [Nat.mod_one]
theorem zbd : ∀ (l : List Int) (a : Nat), (∀ c ∈ l, 0 ≤ c) → 0 ≤ lsum l a
  | [], _, _ => Int.le_refl _
  | c :: cs, a, h => by
    have h1 := Int.mul_nonneg (h c List.mem_cons_self) (show (0 : Int) ≤ ((a % 2 : Nat) : Int) by omega)
    have h2 := zbd cs (a / 2) (fun x hx => h x (List.mem_cons_of_mem _ hx))
    rw [lsum]; omega
theorem zbu : ∀ v : List Nat, wsum (fun _ => 0) v = 0
  | [] => rfl
  | [a] => rfl
  | a :: b :: r => by rw [wsum, zbu (b :: r)]; rfl
def za8 (kind bound md x : Int) : Bool := if kind = 0 then decide (x ≤ bound) else if kind = 1 then decide (x = bound) else decide (md ∣ (x - bound))
end Go.Proofs.Ythgoonohpfoagaa.Pure
namespace Go.Proofs.Ythgoonohpfoagaa.Pure
open Go.RowKit Go.Proofs.YthgoonohpfoagaaW.PrintWords Go.Proofs.YthgoonohpfoagaaW.PrintLast Go.Proofs.YthgoonohpfoagaaW.PrintMore Go.Proofs.Ythgoonohpfoagaa.X
set_option linter.unusedVariables false
theorem ze1 {kind : Int} {S : List Int} {ps : List atom_Raw.Place} {ac : List Bool} {nx : List (List Int)} {q : Nat} {p : atom_Raw.Place} (h : StOk kind S ps ac nx q p) {a : Nat} (ha : a < S.length) :
    acF ac q = p.2.2.2.2 ∧ ∃ z, atom_Raw.to kind p (S.getD a 0) = some z ∧ ps[dlF nx q a]? = some z := by
  obtain ⟨h1, r, h2, h3, h4⟩ := h
  obtain ⟨z, n, e1, e2, e3⟩ := h4 a ha
  refine ⟨by rw [acF, List.getD_eq_getElem?_getD, h1]; rfl, z, ?_, ?_⟩
  · rw [List.getD_eq_getElem?_getD, List.getElem?_eq_getElem ha]; exact e1
  · have : dlF nx q a = n := by
      have hq : nx.getD q [] = r := by rw [List.getD_eq_getElem?_getD, h2]; rfl
      rw [dlF, hq, List.getD_eq_getElem?_getD, e2, Option.getD_some, Int.toNat_natCast]
    rw [this]; exact e3
theorem zbj {kind : Int} {S : List Int} {ps : List atom_Raw.Place} {ac : List Bool} {nx : List (List Int)} (ok : ∀ i p, ps[i]? = some p → StOk kind S ps ac nx i p) : ∀ (v : List Nat) (q : Nat) (p : atom_Raw.Place), Let S.length v → ps[q]? = some p →
    ∃ p', zaa kind S v p = some p' ∧ ps[runN (dlF nx) q v]? = some p'
  | [], q, p, _, hp => ⟨p, rfl, hp⟩
  | a :: v, q, p, hv, hp => by
    obtain ⟨_, z, e1, e2⟩ := ze1 (ok q p hp) (hv a List.mem_cons_self)
    obtain ⟨p', h1, h2⟩ := zbj ok v (dlF nx q a) z (fun x hx => hv x (List.mem_cons_of_mem _ hx)) e2
    exact ⟨p', by rw [zaa, e1, Option.bind_some]; exact h1, h2⟩
theorem zb8 {kind : Int} {S : List Int} {ps : List atom_Raw.Place} {ac : List Bool} {nx : List (List Int)} (ok : ∀ i p, ps[i]? = some p → StOk kind S ps ac nx i p) {q : Nat} {p : atom_Raw.Place} (hp : ps[q]? = some p) : acF ac q = p.2.2.2.2 := by
  obtain ⟨h1, _⟩ := ok q p hp
  rw [acF, List.getD_eq_getElem?_getD, h1]; rfl
theorem zcp {kind bound md : Int} {names : List ByteArray} {coefs : List Int} (hb : (Lit.int .i64 bound).wf = true) (hm : (Lit.int .i64 md).wf = true) (g : zae kind names coefs bound md = true) {v : List Nat} (hne : v ≠ []) (hv : ∀ a ∈ v, a < 2 ^ coefs.length)
    {q : atom_Raw.Place} (h : zaa kind (atom_sums.L [0] coefs) v (bound, md, true, false, false) = some q) : q.2.2.2.2 = za8 kind bound md (wsum (lsum coefs) v) := by
  have sl : (atom_sums.L [0] coefs).length = 2 ^ coefs.length := by rw [zap]; simp
  unfold zae at g
  simp only [Bool.and_eq_true, decide_eq_true_eq] at g
  obtain ⟨g0, g1, g2, g3, g4, g5⟩ := g
  simp only [absS] at g4
  have e0 : ∀ s ∈ [(0 : Int)], (s.natAbs : Int) + absS coefs ≤ 9223372036854775807 := fun s h => by rw [List.mem_singleton.1 h]; simp only [Int.natAbs_zero]; omega
  obtain ⟨es, bs⟩ := zbm coefs [0] 9223372036854775807 (by omega) e0
  rw [← es] at bs
  have hv' : ∀ a ∈ v, a < (atom_sums.L [0] coefs).length := by rw [sl]; exact hv
  have ew : wsum (fun a => (atom_sums.L [0] coefs).getD a 0) v = wsum (lsum coefs) v := zal (fun a ha => by rw [es]; exact zbl (hv a ha))
  unfold za8
  by_cases k0 : kind = 0
  · subst k0
    rw [if_pos rfl, zc3 bs v _ q hne hv' rfl (zay hb) h, ew]
  · rw [if_neg k0]
    by_cases k1 : kind = 1
    · subst k1
      rw [if_pos rfl, zc5 bs v _ q hne hv' rfl (zay hb) h, ew]
    · rw [if_neg k1]
      obtain rfl : kind = 2 := by omega
      rw [if_pos rfl, Bool.and_eq_true, decide_eq_true_eq, List.all_eq_true] at g5
      have gb := g5.2 bound List.mem_cons_self
      rw [Bool.and_eq_true, decide_eq_true_eq, decide_eq_true_eq] at gb
      have pos : ∀ s ∈ atom_sums.L [0] coefs, 0 ≤ s ∧ s ≤ 9223372036854775807 := fun s hs => by
        obtain ⟨a, ha, e⟩ := List.getElem_of_mem hs
        have la := zbl (coefs := coefs) (a := a) (by rw [← sl]; exact ha)
        rw [← es, List.getD_eq_getElem?_getD, List.getElem?_eq_getElem ha, Option.getD_some, e] at la
        have h2 := zbd coefs a (fun c hc => by
          have := g5.2 c (List.mem_cons_of_mem _ hc)
          rw [Bool.and_eq_true, decide_eq_true_eq, decide_eq_true_eq] at this
          exact this.1)
        have h1 := bs s hs
        rw [← la] at h2
        omega
      rw [zbz pos v _ q hne hv' ⟨rfl, gb.1, gb.2, (zay hm).2⟩ h, ew]
theorem zb5 {kind bound md : Int} {names : List ByteArray} {coefs : List Int} {ac : List Bool} {nx : List (List Int)} (hs : ∀ x ∈ names, x.size ≤ 9223372036854775807) (n6 : names.length ≤ 6) (g : zae kind names coefs bound md = true) (m : zaj kind (atom_sums.L [0] coefs) bound md ac nx) : DOk names ac nx := by
  unfold zae at g
  simp only [Bool.and_eq_true, decide_eq_true_eq] at g
  obtain ⟨g0, g1, g2, g3, g4, g5⟩ := g
  obtain ⟨h1, h2, h3, h4⟩ := m.one
  have sl : (atom_sums.L [0] coefs).length = 2 ^ names.length := by rw [zap, g3]; simp
  exact ⟨⟨n6, h1, h2, g2⟩, h3, fun r hr => by rw [← sl]; exact h4 r hr⟩
end Go.Proofs.Ythgoonohpfoagaa.Pure
namespace Go.Proofs.Ythgoonohpfoagaa.Pure
open Go.RowKit Go.Proofs.YthgoonohpfoagaaW.PrintWords Go.Proofs.YthgoonohpfoagaaW.PrintLast Go.Proofs.YthgoonohpfoagaaW.PrintMore Go.Proofs.Ythgoonohpfoagaa.X
set_option linter.unusedVariables false
theorem zbo (s : Int) : ∀ (l : List Int) (a : Nat), lsum (l.map (· * s)) a = s * lsum l a
  | [], _ => by simp [lsum]
  | c :: cs, a => by
    rw [List.map_cons, lsum, lsum, zbo s cs, Int.mul_add, ← Int.mul_assoc, Int.mul_comm c s]
theorem zdb (f : Nat → Int) (s : Int) (v : List Nat) : wsum (fun a => s * f a) v = s * wsum f v := by
  have := zb6 f (fun _ => 0) s v
  rw [zbu, Int.add_zero] at this
  rw [← this]
  exact zal (fun a _ => by simp)
theorem zcw {kind bound md x s : Int} (hs : 0 < s) : za8 kind (bound * s) (md * s) (s * x) = za8 kind bound md x := by
  unfold za8
  by_cases k0 : kind = 0
  · rw [if_pos k0, if_pos k0]
    refine decide_eq_decide.2 ⟨fun h => ?_, fun h => ?_⟩
    · rw [Int.mul_comm s x] at h; exact Int.le_of_mul_le_mul_right h hs
    · rw [Int.mul_comm s x]; exact Int.mul_le_mul_of_nonneg_right h (Int.le_of_lt hs)
  · rw [if_neg k0, if_neg k0]
    by_cases k1 : kind = 1
    · rw [if_pos k1, if_pos k1]
      refine decide_eq_decide.2 ⟨fun h => ?_, fun h => by rw [h, Int.mul_comm]⟩
      rw [Int.mul_comm s x] at h
      exact Int.eq_of_mul_eq_mul_right (by omega) h
    · rw [if_neg k1, if_neg k1]
      refine decide_eq_decide.2 ⟨?_, ?_⟩
      · rintro ⟨c, hc⟩
        refine ⟨c, Int.eq_of_mul_eq_mul_right (show s ≠ 0 by omega) ?_⟩
        rw [Int.sub_mul, Int.mul_comm x s, hc, Int.mul_assoc, Int.mul_assoc, Int.mul_comm s c]
      · rintro ⟨c, hc⟩
        refine ⟨c, ?_⟩
        rw [Int.mul_comm s x, ← Int.sub_mul, hc, Int.mul_assoc, Int.mul_assoc, Int.mul_comm s c]
theorem zby {s : Int} (s1 : 1 ≤ s) (s8 : s ≤ 8) : ∀ l : List Int, (tabardlaw14_scaled.go s l).2 = true → (tabardlaw14_scaled.go s l).1 = l.map (· * s) ∧ ∀ x ∈ l, -1099511627776 ≤ x ∧ x ≤ 1099511627776
  | [], _ => ⟨rfl, fun x h => by cases h⟩
  | x :: l, h => by
    rw [tabardlaw14_scaled.go] at h ⊢
    by_cases c1 : x > 1099511627776
    · rw [if_pos c1] at h; cases h
    · rw [if_neg c1] at h ⊢
      by_cases c2 : x < -1099511627776
      · rw [if_pos c2] at h; cases h
      · rw [if_neg c2] at h ⊢
        obtain ⟨e, hb⟩ := zby s1 s8 l h
        refine ⟨?_, fun y hy => ?_⟩
        · have m1 : x * s ≤ 1099511627776 * 8 := by
            by_cases z : 0 ≤ x
            · exact Int.mul_le_mul (by omega) s8 (by omega) (by omega)
            · have := Int.mul_nonneg (show 0 ≤ -x by omega) (show 0 ≤ s by omega)
              rw [Int.neg_mul] at this; omega
          have m2 : -(1099511627776 * 8) ≤ x * s := by
            by_cases z : 0 ≤ x
            · have := Int.mul_nonneg z (show 0 ≤ s by omega); omega
            · have := Int.mul_le_mul (show -x ≤ 1099511627776 by omega) s8 (by omega) (by decide)
              rw [Int.neg_mul] at this; omega
          show wrap64 (x * s) :: _ = _
          rw [w64 (by omega) (by omega), e]; rfl
        · rcases List.mem_cons.1 hy with rfl | hy
          · exact ⟨by omega, by omega⟩
          · exact hb y hy
theorem zbp (s : Int) : ∀ l : List Int, (tabardlaw14_scaled.go s l).1.length = l.length
  | [] => rfl
  | x :: l => by
    rw [tabardlaw14_scaled.go]
    by_cases c1 : x > 1099511627776
    · rw [if_pos c1]
    · rw [if_neg c1]
      by_cases c2 : x < -1099511627776
      · rw [if_pos c2]
      · rw [if_neg c2]; simp [zbp s l]
theorem zb3 {s : Int} : ∀ l : List Int, (∀ x ∈ l, (Lit.int .i64 x).wf = true) → ∀ x ∈ (tabardlaw14_scaled.go s l).1, (Lit.int .i64 x).wf = true
  | [], _, x, h => by cases h
  | y :: l, hw, x, h => by
    rw [tabardlaw14_scaled.go] at h
    by_cases c1 : y > 1099511627776
    · rw [if_pos c1] at h; exact hw x h
    · rw [if_neg c1] at h
      by_cases c2 : y < -1099511627776
      · rw [if_pos c2] at h; exact hw x h
      · rw [if_neg c2] at h
        rcases List.mem_cons.1 h with rfl | h
        · exact (R64.wrap _).wf
        · exact zb3 l (fun z hz => hw z (List.mem_cons_of_mem _ hz)) x h
theorem zdj {kind bound md s : Int} {names : List ByteArray} {coefs : List Int} {ac ac' : List Bool} {nx nx' : List (List Int)} (hs : ∀ x ∈ names, x.size ≤ 9223372036854775807) (h0 : names.length * 16 ≤ 140737488351232) (s0 : 0 < s)
    (hb : (Lit.int .i64 bound).wf = true) (hm : (Lit.int .i64 md).wf = true) (hb' : (Lit.int .i64 (bound * s)).wf = true) (hm' : (Lit.int .i64 (md * s)).wf = true) (n6 : names.length ≤ 6)
    (g : zae kind names coefs bound md = true) (g' : zae kind names (coefs.map (· * s)) (bound * s) (md * s) = true)
    (m : zaj kind (atom_sums.L [0] coefs) bound md ac nx) (m' : zaj kind (atom_sums.L [0] (coefs.map (· * s))) (bound * s) (md * s) ac' nx') :
    ∃ ac2 nx2, Ev (fun k => canon_Minimal.f k names ac nx) (names, ac2, nx2, 0) ∧ Ev (fun k => canon_Minimal.f k names ac' nx') (names, ac2, nx2, 0) ∧ ac2.length ≤ 256 ∧ nx2.length ≤ 256 ∧ ∀ r ∈ nx2, r.length ≤ 64 := by
  have d := zb5 hs n6 g m
  have d' := zb5 hs n6 g' m'
  have h64 : 2 ^ names.length ≤ 64 := Nat.le_trans (Nat.pow_le_pow_right (by decide) n6) (by decide)
  have rz : RZ nx := fun r hr => by rw [(d.rows r hr).1]; omega
  have rz' : RZ nx' := fun r hr => by rw [(d'.rows r hr).1]; omega
  obtain ⟨cl, K, C⟩ := zd4 hs (by omega) rz d
  have mt := d'.mk'
  obtain ⟨cl', l', e'⟩ := zbn hs rz' d' mt
  have g3 : names.length = coefs.length := by
    unfold zae at g
    simp only [Bool.and_eq_true, decide_eq_true_eq] at g
    exact g.2.2.2.1
  have sl : (atom_sums.L [0] coefs).length = 2 ^ names.length := by rw [zap, g3]; simp
  have sl' : (atom_sums.L [0] (coefs.map (· * s))).length = 2 ^ names.length := by rw [zap, List.length_map, g3]; simp
  obtain ⟨ps, p0, _, _, _, ok⟩ := m
  obtain ⟨ps', p0', _, _, _, ok'⟩ := m'
  obtain ⟨E2, a, c⟩ := zd5 C.rt mt C.least l' C.stop (fun w hw => by
    obtain ⟨p1, e1, f1⟩ := zbj ok w 0 _ (by rw [sl]; exact hw) p0
    obtain ⟨p2, e2, f2⟩ := zbj ok' w 0 _ (by rw [sl']; exact hw) p0'
    rw [zb8 ok f1, zb8 ok' f2]
    by_cases wn : w = []
    · subst wn
      rw [zaa] at e1 e2
      obtain rfl := Option.some.inj e1
      obtain rfl := Option.some.inj e2
      rfl
    · rw [zcp hb hm g wn (by rw [← g3]; exact hw) e1, zcp hb' hm' g' wn (by rw [List.length_map, ← g3]; exact hw) e2]
      have : wsum (lsum (coefs.map (· * s))) w = s * wsum (lsum coefs) w := by
        rw [← zdb]
        exact zal (fun a _ => zbo s coefs a)
      rw [this, zcw s0])
  have P := zc1 hs (by omega) rz' d' mt l' e' E2
  rw [a, c] at P
  have mm := min_mk C.rt C.least C.stop
  have q1 := mm.n2
  have q2 := mm.len
  have q3 := mm.rows
  exact ⟨_, _, C.min, P, q1, by omega, fun r hr => by rw [(q3 r hr).1]; exact h64⟩
end Go.Proofs.Ythgoonohpfoagaa.Pure
namespace Go.Proofs.Ythgoonohpfoagaa.Pure
open Go.RowKit Go.Proofs.YthgoonohpfoagaaW.PrintWords Go.Proofs.YthgoonohpfoagaaW.PrintLast Go.Proofs.YthgoonohpfoagaaW.PrintMore Go.Proofs.Ythgoonohpfoagaa.X
set_option linter.unusedVariables false
theorem zeq : Ev (fun k => tabardlaw14_fixed.f k) true := Ev.of (fun k => tabardlaw14_fixed.mono k) (k := 300) (by decide +kernel)
theorem zea (z : Int) : ∃ s : Int, wrap64 (1 + (wrap64 (Int.tmod (IntKind.u64.wrap z) 8))) = s ∧ 1 ≤ s ∧ s ≤ 8 := by
  refine ⟨_, rfl, ?_⟩
  have h0 : 0 ≤ IntKind.u64.wrap z := by rw [zeu]; omega
  generalize IntKind.u64.wrap z = y at h0
  rw [Int.tmod_eq_emod_of_nonneg h0]
  unfold wrap64; omega
theorem AtomScales (kind : Int) (hkw : (Lit.int .i64 kind).wf = true) (names : List ByteArray) (h0 : names.length * 16 ≤ 140737488351232) (hs : ∀ x ∈ names, x.size ≤ maxLen) (coefs : List Int) (h1 : coefs.length * 8 ≤ 140737488351232)
    (hw : ∀ x ∈ coefs, (Lit.int .i64 x).wf = true) (bound : Int) (hb : (Lit.int .i64 bound).wf = true) (md : Int) (hm : (Lit.int .i64 md).wf = true) (z : Int) (qz : (Lit.int .i64 z).wf = true) :
    ∃ k, tabardlaw14_AtomScales.f k kind names coefs bound md z = some true := by
  obtain ⟨s, es, s1, s8⟩ := zea z
  obtain ⟨tr, ac, nx, er, hr, ca, _, _⟩ := zbx (kind := kind) h0 hs h1 hw hb hm
  have ylen := zbp s (coefs ++ [bound, md])
  have ywf := zb3 (s := s) (coefs ++ [bound, md]) (fun x hx => by
    rcases List.mem_append.1 hx with h | h
    · exact hw x h
    · simp at h; rcases h with rfl | rfl; exact hb; exact hm)
  have big : ∀ (cs : List Int) (b m : Int), Ev (fun k => tabardlaw14_AtomScales.j0 k true kind names cs b m tr ac nx) true := fun cs b m => Ev.step (fun k => by rw [tabardlaw14_AtomScales.j0]) (Ev.cond rfl (Ev.fin rfl))
  refine Ev.rounds (Ev.congr (fun k => by rw [tabardlaw14_AtomScales.f]) (Ev.bind zeq (Ev.cond rfl ?_)))
  rw [es]
  have cnd : tabardlaw14_copied.f kind names coefs bound md = some (kind, names, coefs, bound, md) ∧ coefs.length ≤ 17592186044000 := ⟨za7 h0 h1, by omega⟩
  by_cases gz : (tabardlaw14_scaled.go s (coefs ++ [bound, md])).2 = true
  · obtain ⟨ge, gb⟩ := zby s1 s8 _ gz
    have t1 : (tabardlaw14_scaled.go s (coefs ++ [bound, md])).1.take coefs.length = coefs.map (· * s) := by rw [ge, List.map_append, List.take_append_of_le_length (by simp), List.take_of_length_le (by simp)]
    have t2 : (tabardlaw14_scaled.go s (coefs ++ [bound, md])).1.getD coefs.length 0 = bound * s := by
      rw [ge, List.map_append, List.getD_eq_getElem?_getD, List.getElem?_append_right (by simp), List.length_map, Nat.sub_self]; rfl
    have t3 : (tabardlaw14_scaled.go s (coefs ++ [bound, md])).1.getD (coefs.length + 1) 0 = md * s := by
      rw [ge, List.map_append, List.getD_eq_getElem?_getD, List.getElem?_append_right (by simp), List.length_map, Nat.add_sub_cancel_left]; rfl
    rw [ge] at ywf
    have hw' : ∀ x ∈ coefs.map (· * s), (Lit.int .i64 x).wf = true := fun x hx => ywf x (by rw [List.map_append]; exact List.mem_append_left _ hx)
    have hb' : (Lit.int .i64 (bound * s)).wf = true := ywf _ (by simp)
    have hm' : (Lit.int .i64 (md * s)).wf = true := ywf _ (by simp)
    have h1' : (coefs.map (· * s)).length * 8 ≤ 140737488351232 := by rw [List.length_map]; exact h1
    have hc := zca kind (bound * s) (md * s) names (coefs.map (· * s)) h0 hs h1' hw' hb'
    have hsc : Ev (fun k => tabardlaw14_scaled.f k kind names coefs bound md s) (kind, names, coefs.map (· * s), bound * s, md * s, zae kind names (coefs.map (· * s)) (bound * s) (md * s)) := by
      refine Ev.congr (fun k => by rw [tabardlaw14_scaled.f, t1, t2, t3]) (Ev.cond cnd (Ev.cond gz (Ev.bind hc (Ev.fin ?_))))
      cases zae kind names (coefs.map (· * s)) (bound * s) (md * s) <;> rfl
    refine Ev.bind hsc (Ev.ret (za7 h0 h1) (Ev.bind hr ?_))
    cases gg : zae kind names (coefs.map (· * s)) (bound * s) (md * s) with
    | false => exact Ev.ncond (by simp) (big _ _ _)
    | true =>
      refine Ev.cond rfl ?_
      by_cases c : er = 0
      · obtain ⟨g, n6, rfl, m⟩ := ca c
        obtain ⟨tr2, ac2, nx2, er2, hr2, ca2, da2, _⟩ := zbx (kind := kind) h0 hs h1' hw' hb' hm'
        rw [show (er != 0) = false by rw [c]; rfl]
        refine Ev.step (fun k => by rw [tabardlaw14_AtomScales.j0]) (Ev.ncond (by decide) (Ev.bind hr2 ?_))
        by_cases c2 : er2 = 0
        · obtain ⟨g2, _, rfl, m2⟩ := ca2 c2
          obtain ⟨ac3, nx3, p1, p2, q1, q2, q3⟩ := zdj hs h0 (by omega) hb hm hb' hm' n6 g g2 m m2
          refine Ev.cond c2 (Ev.bind p1 (Ev.bind p2 (Ev.cond rfl (Ev.cond rfl (Ev.bind (zde (ns := tr2) (ac := ac3) (nx := nx3) (by omega) (by omega) (by omega) (fun r hr => by have := q3 r hr; omega)) (Ev.fin rfl))))))
        · refine Ev.ncond c2 (Ev.fin ?_)
          rcases da2 gg n6 with h | h
          · exact absurd h c2
          · rw [h]; rfl
      · rw [show (er != 0) = true by simp [c]]
        exact big _ _ _
  · have hsc : Ev (fun k => tabardlaw14_scaled.f k kind names coefs bound md s) (kind, names, (tabardlaw14_scaled.go s (coefs ++ [bound, md])).1.take coefs.length, (tabardlaw14_scaled.go s (coefs ++ [bound, md])).1.getD coefs.length 0, (tabardlaw14_scaled.go s (coefs ++ [bound, md])).1.getD (coefs.length + 1) 0, false) :=
      Ev.congr (fun k => by rw [tabardlaw14_scaled.f]) (Ev.cond cnd (Ev.ncond gz (Ev.fin rfl)))
    exact Ev.bind hsc (Ev.ret (za7 h0 h1) (Ev.bind hr (Ev.ncond (by simp) (big _ _ _))))
end Go.Proofs.Ythgoonohpfoagaa.Pure
