/- The bits of a word one by one: the lowest one's place by the table of the library, and the list of all; no condition beyond that the word has 64 bits. -/
import Derived.Lib.BitFns
namespace Go.Proofs.BitP
/-- The places of a word's bits, rising. -/
def lb (x : Nat) : List Nat := (List.range 64).filter (fun i => x.testBit i)
def tab : List Nat := [0, 1, 56, 2, 57, 49, 28, 3, 61, 58, 42, 50, 38, 29, 17, 4, 62, 47, 59, 36, 45, 43, 51, 22, 53, 39, 33, 30, 24, 18, 12, 5, 63, 55, 48, 27, 60, 41, 37, 16, 46, 35, 44, 21, 52, 32, 23, 11, 54, 26, 40, 15, 34, 20, 31, 10, 25, 14, 19, 9, 13, 8, 7, 6]
theorem tab_len : tab.length = 64 := rfl
theorem tab_all : ∀ k : Fin 64, tab.getD ((2 ^ k.val * 285870213051353865) % 18446744073709551616 / 288230376151711744) 0 = k.val ∧ (2 ^ k.val * 285870213051353865) % 18446744073709551616 / 288230376151711744 < 64 := by decide +kernel
theorem low_bit (y : Nat) (h0 : y ≠ 0) : ∃ k m, y = 2 ^ k * (2 * m + 1) := by
  induction y using Nat.strongRecOn with
  | _ y ih =>
    by_cases c : y % 2 = 1
    · exact ⟨0, y / 2, by omega⟩
    · obtain ⟨k, m, h⟩ := ih (y / 2) (by omega) (by omega)
      exact ⟨k + 1, m, by rw [Nat.pow_succ, Nat.mul_comm (2 ^ k) 2, Nat.mul_assoc, ← h]; omega⟩
theorem low_bits (k m i : Nat) : (2 ^ k * (2 * m + 1)).testBit i = (decide (i = k) || (decide (k < i) && (2 * m + 1).testBit (i - k))) := by
  have h := Nat.testBit_two_pow_mul_add (2 * m + 1) (b := 0) (i := k) (Nat.two_pow_pos k) i
  rw [Nat.add_zero] at h
  rw [h]
  rcases Nat.lt_trichotomy i k with c | c | c
  · rw [if_pos c]; simp; omega
  · subst c; simp
  · rw [if_neg (by omega)]
    have e1 : decide (i = k) = false := by simp; omega
    have e2 : decide (k < i) = true := by simp; omega
    rw [e1, e2]; simp
theorem pred_bits (k m i : Nat) : (2 ^ k * (2 * m + 1) - 1).testBit i = (decide (i < k) || (decide (k < i) && (2 * m + 1).testBit (i - k))) := by
  have e : 2 ^ k * (2 * m + 1) - 1 = 2 ^ k * (2 * m) + (2 ^ k - 1) := by
    have := Nat.two_pow_pos k
    rw [Nat.mul_add, Nat.mul_one]; omega
  rw [e, Nat.testBit_two_pow_mul_add _ (by have := Nat.two_pow_pos k; omega)]
  rcases Nat.lt_trichotomy i k with c | c | c
  · rw [if_pos c, Nat.testBit_two_pow_sub_one]; simp [c]
  · subst c; simp
  · rw [if_neg (by omega)]
    obtain ⟨j, hj⟩ : ∃ j, i - k = j + 1 := ⟨i - k - 1, by omega⟩
    rw [hj, Nat.testBit_succ, Nat.testBit_succ]
    have : (2 * m) / 2 = (2 * m + 1) / 2 := by omega
    rw [this]
    have e1 : decide (i < k) = false := by simp; omega
    have e2 : decide (k < i) = true := by simp; omega
    rw [e1, e2]; simp
/-- The lowest bit of a word: where it is, what the negative's meeting gives, what is left without it. -/
theorem low (y : Nat) (h0 : y ≠ 0) (h : y < 18446744073709551616) : ∃ k, k < 64 ∧ y &&& (18446744073709551616 - y) = 2 ^ k ∧ lb y = k :: lb (y &&& (y - 1)) ∧ y &&& (y - 1) < y := by
  obtain ⟨k, m, e⟩ := low_bit y h0
  have hk : k < 64 := by
    rcases Nat.lt_or_ge k 64 with c | c
    · exact c
    · have : 2 ^ 64 ≤ 2 ^ k := Nat.pow_le_pow_right (by decide) c
      have : 2 ^ k ≤ y := by rw [e]; exact Nat.le_mul_of_pos_right _ (by omega)
      omega
  refine ⟨k, hk, ?_, ?_, ?_⟩
  · have e2 : 18446744073709551616 - y = 2 ^ 64 - ((y - 1) + 1) := by omega
    rw [e2]
    refine Nat.eq_of_testBit_eq fun i => ?_
    rw [Nat.testBit_and, Nat.testBit_two_pow_sub_succ (by omega), e, low_bits, pred_bits, Nat.testBit_two_pow]
    rcases Nat.lt_trichotomy i k with c | c | c
    · have e1 : decide (i = k) = false := by simp; omega
      have e3 : decide (k < i) = false := by simp; omega
      have e4 : decide (k = i) = false := by simp; omega
      simp [e1, e3, e4]
    · subst c; simp [hk]
    · have e1 : decide (i = k) = false := by simp; omega
      have e3 : decide (k < i) = true := by simp; omega
      have e4 : decide (k = i) = false := by simp; omega
      have e5 : decide (i < k) = false := by simp; omega
      rw [e1, e3, e4, e5]
      cases (2 * m + 1).testBit (i - k) <;> simp
  · have e3 : List.range 64 = List.range k ++ k :: List.range' (k + 1) (63 - k) := by
      have a : List.range' 0 k ++ List.range' (0 + k) (64 - k) = List.range' 0 (k + (64 - k)) := List.range'_append_1
      have b : List.range' k (64 - k) = k :: List.range' (k + 1) (63 - k) := by
        rw [show 64 - k = (63 - k) + 1 by omega, List.range'_succ]
      rw [Nat.zero_add, b, show k + (64 - k) = 64 by omega] at a
      rw [List.range_eq_range', List.range_eq_range', ← a]
    have f : ∀ i, (y &&& (y - 1)).testBit i = (decide (k < i) && y.testBit i) := by
      intro i
      rw [Nat.testBit_and, e, low_bits, pred_bits]
      rcases Nat.lt_trichotomy i k with c | c | c
      · have e1 : decide (i = k) = false := by simp; omega
        have e3 : decide (k < i) = false := by simp; omega
        simp [e1, e3]
      · subst c; simp
      · have e1 : decide (i = k) = false := by simp; omega
        have e3 : decide (k < i) = true := by simp; omega
        have e5 : decide (i < k) = false := by simp; omega
        rw [e1, e3, e5]
        cases (2 * m + 1).testBit (i - k) <;> simp
    have g : ∀ i, i < k → y.testBit i = false := by
      intro i hi
      rw [e, low_bits]
      have e1 : decide (i = k) = false := by simp; omega
      have e3 : decide (k < i) = false := by simp; omega
      simp [e1, e3]
    have g2 : y.testBit k = true := by rw [e, low_bits]; simp
    unfold lb
    rw [e3, List.filter_append, List.filter_append, List.filter_cons, List.filter_cons, if_pos g2]
    have l1 : (List.range k).filter (fun i => y.testBit i) = [] := List.filter_eq_nil_iff.2 (fun i hi => by rw [g i (List.mem_range.1 hi)]; simp)
    have l2 : (List.range k).filter (fun i => (y &&& (y - 1)).testBit i) = [] := List.filter_eq_nil_iff.2 (fun i hi => by have := List.mem_range.1 hi; rw [f i]; simp; omega)
    have l3 : (List.range' (k + 1) (63 - k)).filter (fun i => (y &&& (y - 1)).testBit i) = (List.range' (k + 1) (63 - k)).filter (fun i => y.testBit i) := by
      refine List.filter_congr fun i hi => ?_
      rw [f i]
      have := (List.mem_range'_1.1 hi).1
      simp; omega
    rw [l1, l2, l3, List.nil_append, List.nil_append, if_neg (by rw [f k]; simp)]
  · have : y &&& (y - 1) ≤ y - 1 := Nat.and_le_right
    omega
theorem lb_zero : lb 0 = [] := by decide
theorem lb_len (x : Nat) : (lb x).length ≤ 64 := by
  have := List.length_filter_le (fun i => x.testBit i) (List.range 64)
  rw [List.length_range] at this
  exact this
theorem lb_lt {x i : Nat} (h : i ∈ lb x) : i < 64 := List.mem_range.1 (List.mem_filter.1 h).1
theorem pop_lb : ∀ f x : Nat, Go.Lib.popAux f x = ((List.range f).filter (fun i => x.testBit i)).length
  | 0, _ => rfl
  | f + 1, x => by
    rw [Go.Lib.popAux, pop_lb f (x / 2), List.range_succ_eq_map, List.filter_cons, List.filter_map, Nat.testBit_zero]
    have e : ((fun i => x.testBit i) ∘ Nat.succ) = fun i => (x / 2).testBit i := by
      funext i; exact Nat.testBit_succ x i
    rw [e]
    by_cases c : x % 2 = 1
    · rw [if_pos (by simpa using c), List.length_cons, List.length_map, c]; omega
    · rw [if_neg (by simpa using c), List.length_map]; omega
theorem ones_lb (x : Nat) : Go.Lib.onesCount x = (lb x).length := pop_lb 64 x
end Go.Proofs.BitP
