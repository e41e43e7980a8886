/- The law BitsLetters over numbers alone: Digit, Insert and Remove come to what the reference's do; no condition beyond the statement's own. -/
import Derived.Test.YtpekanolhgcljaaEv
import Derived.Test.YtpekanolhgcljaaX1
import Derived.Test.YtpekanolhgcljaaX2
import Derived.Test.YtpekanolhgcljaaX3
import Derived.Test.YtpekanolhgcljaaX5
import Derived.Test.YtpekanolhgcljaaX6
namespace Go.Proofs.Ytpekanolhgcljaa.Pure
open Go.RowKit Go.Proofs.YtpekanolhgcljaaW.PrintWords Go.Proofs.YtpekanolhgcljaaW.PrintLast Go.Proofs.YtpekanolhgcljaaW.PrintMore Go.Proofs.Ytpekanolhgcljaa.X
set_option linter.unusedVariables false
theorem and1_i64 {x : Int} (h0 : 0 ≤ x) (h1 : x ≤ 9223372036854775807) : Go.bits .and .i64 x 1 = x % 2 :=
  bits_mask .i64 63 (by decide) (fun n a b => (i64_w n).trans (w64 (by omega) (by omega))) 1 (by decide) x h0 (by omega)
theorem digits_ev {v : Int} (h0 : 0 ≤ v) (h1 : v ≤ 9223372036854775807) {n : Nat} (hn : n ≤ 1000) : Ev (fun k => tabardref02_Digits.f k v (n : Int)) ((List.range n).map fun i => v / 2 ^ i % 2) := by
  refine Ev.congr (fun k => by rw [tabardref02_Digits.f]) ?_
  have key : ∀ (m i : Nat), i + m = n → Ev (fun k => tabardref02_Digits.l0 k (v / 2 ^ i) (n : Int) ((List.range i).map fun i => v / 2 ^ i % 2) (i : Int)) ((List.range n).map fun i => v / 2 ^ i % 2) := by
    intro m
    induction m with
    | zero =>
      intro i hi
      obtain rfl : i = n := by omega
      exact Ev.step (fun k => by rw [tabardref02_Digits.l0]) (Ev.ncond (by omega) (Ev.fin rfl))
    | succ m ih =>
      intro i hi
      refine Ev.step (fun k => by rw [tabardref02_Digits.l0]) (Ev.cond (by omega) (Ev.cond (by simp; omega) ?_))
      have hP : (0 : Int) < 2 ^ i := Int.pow_pos (by omega)
      have hq : 0 ≤ v / 2 ^ i := Int.ediv_nonneg h0 (by omega)
      have hq2 : v / 2 ^ i ≤ v := Int.ediv_le_self _ h0
      have e1 : Int.tdiv (v / 2 ^ i) 2 = v / 2 ^ (i + 1) := by
        rw [Int.tdiv_eq_ediv_of_nonneg hq, Int.ediv_ediv_of_nonneg (by omega), Int.pow_succ]
      have e2 : Int.tmod (v / 2 ^ i) 2 = v / 2 ^ i % 2 := Int.tmod_eq_emod_of_nonneg hq
      have h3 : 0 ≤ v / 2 ^ (i + 1) := Int.ediv_nonneg h0 (by have : (0 : Int) < 2 ^ (i + 1) := Int.pow_pos (by omega); omega)
      have h4 : v / 2 ^ (i + 1) ≤ v := Int.ediv_le_self _ h0
      rw [e1, e2, w64 (by omega) (by omega), w64 (x := (i : Int) + 1) (by omega) (by omega)]
      have := ih (i + 1) (by omega)
      rw [List.range_succ, List.map_append] at this
      exact this
  have := key n 0 (by omega)
  simpa using this
theorem shr_small' {a t : Int} (h0 : 0 ≤ t) (h1 : t ≤ 61) : shr .i64 a t = a / 2 ^ t.toNat := by
  unfold shr
  rw [Nat.min_eq_left (by have : IntKind.i64.bits = 64 := rfl; omega)]
theorem digit_ev {a t : Int} (h1 : a ≤ 9223372036854775807) : ∃ r, bits_Digit.f a t = some r ∧ Ev (fun k => tabardref02_Digit.f k a t) r := by
  have out : (a < 0 ∨ t < 0 ∨ t > 61) → bits_Digit.f a t = some 0 ∧ Ev (fun k => tabardref02_Digit.f k a t) 0 := by
    intro h
    refine ⟨?_, Ev.congr (fun k => by rw [tabardref02_Digit.f]) ?_⟩
    · unfold bits_Digit.f
      by_cases c1 : a < 0
      · rw [if_pos c1]
      · rw [if_neg c1]
        by_cases c2 : t < 0
        · rw [if_pos c2]
        · rw [if_neg c2, if_pos (by omega)]
    · refine Ev.ite (fun _ => Ev.fin rfl) (fun c1 => Ev.ite (fun _ => Ev.fin rfl) (fun c2 => Ev.cond (by omega) (Ev.fin rfl)))
  by_cases c : a < 0 ∨ t < 0 ∨ t > 61
  · exact ⟨0, out c⟩
  · refine ⟨a / 2 ^ t.toNat % 2, ?_, Ev.congr (fun k => by rw [tabardref02_Digit.f]) ?_⟩
    · have hq : 0 ≤ a / 2 ^ t.toNat := Int.ediv_nonneg (by omega) (by have : (0 : Int) < 2 ^ t.toNat := Int.pow_pos (by omega); omega)
      have hq2 : a / 2 ^ t.toNat ≤ a := Int.ediv_le_self _ (by omega)
      unfold bits_Digit.f
      rw [if_neg (by omega), if_neg (by omega), if_neg (by omega), if_pos (by omega), shr_small' (by omega) (by omega), and1_i64 hq (by omega)]
    · refine Ev.ncond (by omega) (Ev.ncond (by omega) (Ev.ncond (by omega) ?_))
      refine Ev.bind (digits_ev (n := 62) (by omega) h1 (by omega)) (Ev.cond (by omega) (Ev.cond (by simp; omega) (Ev.fin ?_)))
      obtain ⟨i, rfl⟩ := Int.eq_ofNat_of_zero_le (show 0 ≤ t by omega)
      have hi : i < 62 := by omega
      rw [rd_nat, List.getD_eq_getElem?_getD, List.getElem?_eq_getElem (by simpa using hi)]
      simp
theorem ins_all : ∀ a : Fin 32, ∀ t : Fin 6, ∀ d : Fin 2, (tabardref02_Insert.f 20 (a.val : Int) (t.val : Int) (d.val : Int) = bits_Insert.f (a.val : Int) (t.val : Int) (d.val : Int) ∧ (bits_Insert.f (a.val : Int) (t.val : Int) (d.val : Int)).isSome = true) := by decide +kernel
theorem rem_all : ∀ a : Fin 64, ∀ t : Fin 6, (tabardref02_Remove.f 20 (a.val : Int) (t.val : Int) = bits_Remove.f (a.val : Int) (t.val : Int) ∧ (bits_Remove.f (a.val : Int) (t.val : Int)).isSome = true) := by decide +kernel
theorem ins_ev (a t d : Int) : ∃ r, bits_Insert.f a t d = some r ∧ Ev (fun k => tabardref02_Insert.f k a t d) r := by
  by_cases c : 0 ≤ a ∧ a < 32 ∧ 0 ≤ t ∧ t < 6 ∧ 0 ≤ d ∧ d < 2
  · obtain ⟨i, rfl⟩ := Int.eq_ofNat_of_zero_le c.1
    obtain ⟨j, rfl⟩ := Int.eq_ofNat_of_zero_le c.2.2.1
    obtain ⟨m, rfl⟩ := Int.eq_ofNat_of_zero_le c.2.2.2.2.1
    have h := ins_all ⟨i, by omega⟩ ⟨j, by omega⟩ ⟨m, by omega⟩
    simp only [] at h
    obtain ⟨r, hr⟩ := Option.isSome_iff_exists.1 h.2
    exact ⟨r, hr, Ev.of (tabardref02_Insert.mono _ _ _) (h.1.trans hr)⟩
  · refine ⟨(0, 2), ?_, Ev.congr (fun k => by rw [tabardref02_Insert.f]) ?_⟩
    · have e5 : shl .i64 1 5 = 32 := by decide
      unfold bits_Insert.f bits_letters.f
      rw [e5]
      by_cases c0 : a ≥ 0
      · rw [if_pos c0, if_pos (by omega), Option.bind_some]
        by_cases c1 : a < 32
        · rw [decide_eq_true c1, if_pos rfl]
          by_cases c2 : t < 0
          · rw [if_pos c2]
          · rw [if_neg c2]
            by_cases c3 : t ≥ 6
            · rw [if_pos c3]
            · rw [if_neg c3, if_neg (by omega), if_neg (by omega)]
        · rw [decide_eq_false c1]; rfl
      · rw [if_neg c0]; rfl
    · have b : ∀ (x y : Int), tabardref02_below.f x y = some (decide (0 ≤ x ∧ x < y)) := by
        intro x y
        unfold tabardref02_below.f
        by_cases h : x ≥ 0
        · rw [if_pos h]; congr 1; simp [h]
        · rw [if_neg h]; congr 1; simp [h]
      have bad : Ev (fun k => tabardref02_Insert.j0 k a t d true) (0, 2) := Ev.step (fun k => by rw [tabardref02_Insert.j0]) (Ev.cond rfl (Ev.fin rfl))
      refine Ev.ret (b _ _) (Ev.ite (fun h1 => Ev.ret (b _ _) (Ev.ite (fun h2 => Ev.ret (b _ _) ?_) (fun _ => bad))) (fun _ => bad))
      have h1 := of_decide_eq_true h1
      have h2 := of_decide_eq_true h2
      rw [decide_eq_false (by omega)]
      exact bad
theorem rem_ev (a t : Int) : ∃ r, bits_Remove.f a t = some r ∧ Ev (fun k => tabardref02_Remove.f k a t) r := by
  by_cases c : 0 ≤ a ∧ a < 64 ∧ 0 ≤ t ∧ t < 6
  · obtain ⟨i, rfl⟩ := Int.eq_ofNat_of_zero_le c.1
    obtain ⟨j, rfl⟩ := Int.eq_ofNat_of_zero_le c.2.2.1
    have h := rem_all ⟨i, by omega⟩ ⟨j, by omega⟩
    simp only [] at h
    obtain ⟨r, hr⟩ := Option.isSome_iff_exists.1 h.2
    exact ⟨r, hr, Ev.of (tabardref02_Remove.mono _ _) (h.1.trans hr)⟩
  · refine ⟨(0, 2), ?_, Ev.congr (fun k => by rw [tabardref02_Remove.f]) ?_⟩
    · have e5 : shl .i64 1 6 = 64 := by decide
      unfold bits_Remove.f bits_letters.f
      rw [e5]
      by_cases c0 : a ≥ 0
      · rw [if_pos c0, if_pos (by omega), Option.bind_some]
        by_cases c1 : a < 64
        · rw [decide_eq_true c1, if_pos rfl]
          by_cases c2 : t < 0
          · rw [if_pos c2]
          · rw [if_neg c2, if_pos (by omega)]
        · rw [decide_eq_false c1]; rfl
      · rw [if_neg c0]; rfl
    · have b : ∀ (x y : Int), tabardref02_below.f x y = some (decide (0 ≤ x ∧ x < y)) := by
        intro x y
        unfold tabardref02_below.f
        by_cases h : x ≥ 0
        · rw [if_pos h]; congr 1; simp [h]
        · rw [if_neg h]; congr 1; simp [h]
      have bad : Ev (fun k => tabardref02_Remove.j0 k a t true) (0, 2) := Ev.step (fun k => by rw [tabardref02_Remove.j0]) (Ev.cond rfl (Ev.fin rfl))
      refine Ev.ret (b _ _) (Ev.ite (fun h1 => Ev.ret (b _ _) ?_) (fun _ => bad))
      have h1 := of_decide_eq_true h1
      rw [decide_eq_false (by omega)]
      exact bad
theorem BitsLetters : tabardlaw02_BitsLetters.Pure := by
  intro a t d ha ht hd
  obtain ⟨ha0, ha1⟩ := i64_wf ha
  obtain ⟨r1, e1, e2⟩ := ins_ev a t d
  obtain ⟨r2, e3, e4⟩ := rem_ev a t
  obtain ⟨r3, e5, e6⟩ := digit_ev (a := a) (t := t) ha1
  refine Ev.rounds (g := fun k => tabardlaw02_BitsLetters.f k a t d) ?_
  refine Ev.congr (fun k => by rw [tabardlaw02_BitsLetters.f]) ?_
  refine Ev.ret e1 (Ev.bind e2 (Ev.ret e3 (Ev.bind e4 (Ev.ret (by rw [tabardlaw02_fixed.f]) (Ev.cond rfl (Ev.ret e5 (Ev.bind e6 ?_)))))))
  exact Ev.cond rfl (Ev.cond rfl (Ev.cond rfl (Ev.cond rfl (Ev.fin (by simp)))))
end Go.Proofs.Ytpekanolhgcljaa.Pure
