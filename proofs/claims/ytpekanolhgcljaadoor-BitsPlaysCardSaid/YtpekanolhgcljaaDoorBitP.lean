/- OnesCount64's steps count the bits of a word; no condition beyond that the word has 64 bits. -/
import Derived.Lib.BitFns
namespace Go.Proofs.BitP
theorem and_split {u p : Nat} (v q : Nat) (hu : u < 256) (hp : p < 256) : (u + 256 * v) &&& (p + 256 * q) = (u &&& p) + 256 * (v &&& q) := by
  have e : ∀ a b : Nat, a + 256 * b = 2 ^ 8 * b + a := fun a b => by omega
  have hup : u &&& p < 2 ^ 8 := Nat.and_lt_two_pow _ hp
  rw [e, e, e]
  refine Nat.eq_of_testBit_eq fun i => ?_
  rw [Nat.testBit_and, Nat.testBit_two_pow_mul_add _ hu, Nat.testBit_two_pow_mul_add _ hp, Nat.testBit_two_pow_mul_add _ hup]
  by_cases h : i < 8
  · rw [if_pos h, if_pos h, if_pos h, Nat.testBit_and]
  · rw [if_neg h, if_neg h, if_neg h, Nat.testBit_and]
/-- A number of its bytes. -/
def ofB : List Nat → Nat
  | [] => 0
  | a :: l => a + 256 * ofB l
def rep (m : Nat) : Nat → Nat
  | 0 => 0
  | k + 1 => m + 256 * rep m k
def g1 (b : Nat) : Nat := (b >>> 1 &&& 85) + (b &&& 85)
def g2 (b : Nat) : Nat := (b >>> 2 &&& 51) + (b &&& 51)
def g3 (b : Nat) : Nat := b / 16 + b % 16
theorem m1 : ∀ a : Fin 128, ∀ c : Fin 2, (a.val + 128 * c.val) &&& 85 = a.val &&& 85 := by decide +kernel
theorem m2 : ∀ a : Fin 64, ∀ c : Fin 4, (a.val + 64 * c.val) &&& 51 = a.val &&& 51 := by decide +kernel
theorem f1 : ∀ l : List Nat, (∀ b ∈ l, b < 256) → (ofB l >>> 1 &&& rep 85 l.length) + (ofB l &&& rep 85 l.length) = ofB (l.map g1)
  | [], _ => rfl
  | a :: l, h => by
    have ha := h a (by simp)
    have ih := f1 l (fun b hb => h b (by simp [hb]))
    have e1 : (a + 256 * ofB l) >>> 1 = (a / 2 + 128 * (ofB l % 2)) + 256 * (ofB l >>> 1) := by
      rw [Nat.shiftRight_eq_div_pow, Nat.shiftRight_eq_div_pow]; omega
    have e2 := m1 ⟨a / 2, by omega⟩ ⟨ofB l % 2, by omega⟩
    simp only [] at e2
    simp only [ofB, rep, List.length_cons, List.map_cons]
    rw [e1, and_split _ _ (by omega) (by omega), and_split _ _ ha (by omega), e2, ← ih, g1, Nat.shiftRight_eq_div_pow a]
    simp only [Nat.pow_one]
    omega
theorem f2 : ∀ l : List Nat, (∀ b ∈ l, b < 256) → (ofB l >>> 2 &&& rep 51 l.length) + (ofB l &&& rep 51 l.length) = ofB (l.map g2)
  | [], _ => rfl
  | a :: l, h => by
    have ha := h a (by simp)
    have ih := f2 l (fun b hb => h b (by simp [hb]))
    have e1 : (a + 256 * ofB l) >>> 2 = (a / 4 + 64 * (ofB l % 4)) + 256 * (ofB l >>> 2) := by
      rw [Nat.shiftRight_eq_div_pow, Nat.shiftRight_eq_div_pow]; omega
    have e2 := m2 ⟨a / 4, by omega⟩ ⟨ofB l % 4, by omega⟩
    simp only [] at e2
    simp only [ofB, rep, List.length_cons, List.map_cons]
    rw [e1, and_split _ _ (by omega) (by omega), and_split _ _ ha (by omega), e2, ← ih, g2, Nat.shiftRight_eq_div_pow a]
    show (a / 4 &&& 51) + _ + _ = (a / 4 &&& 51) + _ + _
    omega
theorem m3 : ∀ a : Fin 256, a.val &&& 15 = a.val % 16 := by decide +kernel
theorem f3 : ∀ l : List Nat, (∀ b ∈ l, b / 16 ≤ 4 ∧ b % 16 ≤ 4) → (ofB l >>> 4 + ofB l) &&& rep 15 l.length = ofB (l.map g3) ∧ ofB l % 16 ≤ 4
  | [], _ => ⟨rfl, by decide⟩
  | a :: l, h => by
    have ha := h a (by simp)
    obtain ⟨ih, il⟩ := f3 l (fun b hb => h b (by simp [hb]))
    have e1 : (a + 256 * ofB l) >>> 4 + (a + 256 * ofB l) = (a / 16 + a + 16 * (ofB l % 16)) + 256 * (ofB l >>> 4 + ofB l) := by
      rw [Nat.shiftRight_eq_div_pow, Nat.shiftRight_eq_div_pow]; omega
    have e2 := m3 ⟨a / 16 + a + 16 * (ofB l % 16), by omega⟩
    simp only [] at e2
    simp only [ofB, rep, List.length_cons, List.map_cons]
    rw [e1, and_split _ _ (by omega) (by omega), e2, ← ih, g3]
    constructor <;> omega
theorem n2 : ∀ b : Fin 256, g2 (g1 b.val) / 16 ≤ 4 ∧ g2 (g1 b.val) % 16 ≤ 4 ∧ g1 b.val < 256 ∧ g3 (g2 (g1 b.val)) = Go.Lib.popAux 8 b.val ∧ Go.Lib.popAux 8 b.val ≤ 8 := by decide +kernel
theorem pop_byte (f a y : Nat) (h : a < 256) : Go.Lib.popAux (f + 8) (a + 256 * y) = Go.Lib.popAux 8 a + Go.Lib.popAux f y := by
  have e : ∀ k, Go.Lib.popAux (k + 8) (a + 256 * y) = (a + 256 * y) % 2 + ((a + 256 * y) / 2 % 2 + ((a + 256 * y) / 2 / 2 % 2 + ((a + 256 * y) / 2 / 2 / 2 % 2 + ((a + 256 * y) / 2 / 2 / 2 / 2 % 2 + ((a + 256 * y) / 2 / 2 / 2 / 2 / 2 % 2 + ((a + 256 * y) / 2 / 2 / 2 / 2 / 2 / 2 % 2 + ((a + 256 * y) / 2 / 2 / 2 / 2 / 2 / 2 / 2 % 2 + Go.Lib.popAux k ((a + 256 * y) / 2 / 2 / 2 / 2 / 2 / 2 / 2 / 2)))))))) := fun k => rfl
  have e8 : Go.Lib.popAux 8 a = a % 2 + (a / 2 % 2 + (a / 2 / 2 % 2 + (a / 2 / 2 / 2 % 2 + (a / 2 / 2 / 2 / 2 % 2 + (a / 2 / 2 / 2 / 2 / 2 % 2 + (a / 2 / 2 / 2 / 2 / 2 / 2 % 2 + (a / 2 / 2 / 2 / 2 / 2 / 2 / 2 % 2 + 0))))))) := rfl
  have ey : (a + 256 * y) / 2 / 2 / 2 / 2 / 2 / 2 / 2 / 2 = y := by omega
  rw [e, e8, ey]
  omega
theorem tail_sum (c0 c1 c2 c3 c4 c5 c6 c7 : Nat) (k0 : c0 ≤ 8) (k1 : c1 ≤ 8) (k2 : c2 ≤ 8) (k3 : c3 ≤ 8) (k4 : c4 ≤ 8) (k5 : c5 ≤ 8) (k6 : c6 ≤ 8) (k7 : c7 ≤ 8) (t : Nat)
    (ht : t = c0 + 256 * (c1 + 256 * (c2 + 256 * (c3 + 256 * (c4 + 256 * (c5 + 256 * (c6 + 256 * (c7 + 256 * 0)))))))) :
    t + t / 256 < 18446744073709551616 ∧
      (t + t / 256) + (t + t / 256) / 65536 < 18446744073709551616 ∧
      (t + t / 256) + (t + t / 256) / 65536 + ((t + t / 256) + (t + t / 256) / 65536) / 4294967296 < 18446744073709551616 ∧
      ((t + t / 256) + (t + t / 256) / 65536 + ((t + t / 256) + (t + t / 256) / 65536) / 4294967296) % 128 = c0 + (c1 + (c2 + (c3 + (c4 + (c5 + (c6 + (c7 + 0))))))) := by
  have e1 : t / 256 = c1 + 256 * (c2 + 256 * (c3 + 256 * (c4 + 256 * (c5 + 256 * (c6 + 256 * c7))))) := by omega
  obtain ⟨a, ha⟩ : ∃ a, a = t + t / 256 := ⟨_, rfl⟩
  rw [← ha]
  have ea : a = (c0 + c1) + 256 * (c1 + c2) + 65536 * ((c2 + c3) + 256 * ((c3 + c4) + 256 * ((c4 + c5) + 256 * ((c5 + c6) + 256 * ((c6 + c7) + 256 * c7))))) := by omega
  have e2 : a / 65536 = (c2 + c3) + 256 * ((c3 + c4) + 256 * ((c4 + c5) + 256 * ((c5 + c6) + 256 * ((c6 + c7) + 256 * c7)))) := by clear e1 ht ha; omega
  obtain ⟨b, hb⟩ : ∃ b, b = a + a / 65536 := ⟨_, rfl⟩
  rw [← hb]
  have eb : b = (c0 + c1 + c2 + c3) + 256 * (c1 + c2 + c3 + c4) + 65536 * (c2 + c3 + c4 + c5) + 16777216 * (c3 + c4 + c5 + c6) + 4294967296 * ((c4 + c5 + c6 + c7) + 256 * (c5 + c6 + c7) + 65536 * (c6 + c7) + 16777216 * c7) := by rw [e2] at hb; clear e1 ht ha e2; omega
  have e3 : b / 4294967296 = (c4 + c5 + c6 + c7) + 256 * (c5 + c6 + c7) + 65536 * (c6 + c7) + 16777216 * c7 := by clear e1 ht ha e2 hb ea; omega
  rw [e3]
  clear e3 hb e2 ha e1 ht
  refine ⟨?_, ?_, ?_, ?_⟩
  · clear eb; omega
  · clear ea; omega
  · clear ea; omega
  · clear ea; omega
theorem ofB_lt : ∀ l : List Nat, (∀ b ∈ l, b < 256) → ofB l < 256 ^ l.length
  | [], _ => by decide
  | a :: l, h => by
    have ha := h a (by simp)
    have ih := ofB_lt l (fun b hb => h b (by simp [hb]))
    simp only [ofB, List.length_cons, Nat.pow_succ]
    omega
theorem ofB_le : ∀ l : List Nat, (∀ b ∈ l, b ≤ 68) → 255 * ofB l + 68 ≤ 68 * 256 ^ l.length
  | [], _ => by decide
  | a :: l, h => by
    have ha := h a (by simp)
    have ih := ofB_le l (fun b hb => h b (by simp [hb]))
    simp only [ofB, List.length_cons, Nat.pow_succ]
    omega
theorem p64 (z : Nat) (h : z < 256 ^ (0 + 1 + 1 + 1 + 1 + 1 + 1 + 1 + 1)) : z < 18446744073709551616 := by
  have e : 256 ^ (0 + 1 + 1 + 1 + 1 + 1 + 1 + 1 + 1) = 18446744073709551616 := by decide
  rw [e] at h; exact h
theorem w3_ (z : Nat) (h : 255 * z + 68 ≤ 68 * 256 ^ (0 + 1 + 1 + 1 + 1 + 1 + 1 + 1 + 1)) : z < 18446744073709551616 ∧ z >>> 4 + z < 18446744073709551616 := by
  have e : 256 ^ (0 + 1 + 1 + 1 + 1 + 1 + 1 + 1 + 1) = 18446744073709551616 := by decide
  rw [e] at h
  rw [Nat.shiftRight_eq_div_pow]
  constructor
  · omega
  · omega
theorem count_steps (x : Nat) (hx : x < 18446744073709551616) :
    ∃ y z t : Nat, (x >>> 1 &&& 6148914691236517205) + (x &&& 6148914691236517205) = y ∧ y < 18446744073709551616 ∧
      (y >>> 2 &&& 3689348814741910323) + (y &&& 3689348814741910323) = z ∧ z < 18446744073709551616 ∧
      z >>> 4 + z < 18446744073709551616 ∧ (z >>> 4 + z) &&& 1085102592571150095 = t ∧ t + t / 256 < 18446744073709551616 ∧
      (t + t / 256) + (t + t / 256) / 65536 < 18446744073709551616 ∧
      (t + t / 256) + (t + t / 256) / 65536 + ((t + t / 256) + (t + t / 256) / 65536) / 4294967296 < 18446744073709551616 ∧
      ((t + t / 256) + (t + t / 256) / 65536 + ((t + t / 256) + (t + t / 256) / 65536) / 4294967296) % 128 = Go.Lib.onesCount x ∧ Go.Lib.onesCount x ≤ 64 := by
  obtain ⟨b0, b1, b2, b3, b4, b5, b6, b7, p0, p1, p2, p3, p4, p5, p6, p7, rfl⟩ : ∃ b0 b1 b2 b3 b4 b5 b6 b7 : Nat, b0 < 256 ∧ b1 < 256 ∧ b2 < 256 ∧ b3 < 256 ∧ b4 < 256 ∧ b5 < 256 ∧ b6 < 256 ∧ b7 < 256 ∧ x = ofB [b0, b1, b2, b3, b4, b5, b6, b7] := by
    refine ⟨x % 256, x / 256 % 256, x / 65536 % 256, x / 16777216 % 256, x / 4294967296 % 256, x / 1099511627776 % 256, x / 281474976710656 % 256, x / 72057594037927936 % 256, ?_⟩
    simp only [ofB]; omega
  have hb : ∀ b ∈ [b0, b1, b2, b3, b4, b5, b6, b7], b < 256 := by
    intro b hb
    simp only [List.mem_cons, List.not_mem_nil, or_false] at hb
    omega
  have lt : ∀ {a y : Nat}, a < 256 → y < 72057594037927936 → a + 256 * y < 18446744073709551616 := by omega
  have h0 := n2 ⟨b0, p0⟩
  have h1 := n2 ⟨b1, p1⟩
  have h2 := n2 ⟨b2, p2⟩
  have h3 := n2 ⟨b3, p3⟩
  have h4 := n2 ⟨b4, p4⟩
  have h5 := n2 ⟨b5, p5⟩
  have h6 := n2 ⟨b6, p6⟩
  have h7 := n2 ⟨b7, p7⟩
  have q1 := f1 [b0, b1, b2, b3, b4, b5, b6, b7] hb
  have hg1 : ∀ b ∈ [g1 b0, g1 b1, g1 b2, g1 b3, g1 b4, g1 b5, g1 b6, g1 b7], b < 256 := by
    intro b hb
    simp only [List.mem_cons, List.not_mem_nil, or_false] at hb
    rcases hb with rfl | rfl | rfl | rfl | rfl | rfl | rfl | rfl
    · exact h0.2.2.1
    · exact h1.2.2.1
    · exact h2.2.2.1
    · exact h3.2.2.1
    · exact h4.2.2.1
    · exact h5.2.2.1
    · exact h6.2.2.1
    · exact h7.2.2.1
  have hg2 : ∀ b ∈ [g2 (g1 b0), g2 (g1 b1), g2 (g1 b2), g2 (g1 b3), g2 (g1 b4), g2 (g1 b5), g2 (g1 b6), g2 (g1 b7)], b / 16 ≤ 4 ∧ b % 16 ≤ 4 := by
    intro b hb
    simp only [List.mem_cons, List.not_mem_nil, or_false] at hb
    rcases hb with rfl | rfl | rfl | rfl | rfl | rfl | rfl | rfl
    · exact ⟨h0.1, h0.2.1⟩
    · exact ⟨h1.1, h1.2.1⟩
    · exact ⟨h2.1, h2.2.1⟩
    · exact ⟨h3.1, h3.2.1⟩
    · exact ⟨h4.1, h4.2.1⟩
    · exact ⟨h5.1, h5.2.1⟩
    · exact ⟨h6.1, h6.2.1⟩
    · exact ⟨h7.1, h7.2.1⟩
  have q2 := f2 [g1 b0, g1 b1, g1 b2, g1 b3, g1 b4, g1 b5, g1 b6, g1 b7] hg1
  obtain ⟨q3, -⟩ := f3 [g2 (g1 b0), g2 (g1 b1), g2 (g1 b2), g2 (g1 b3), g2 (g1 b4), g2 (g1 b5), g2 (g1 b6), g2 (g1 b7)] hg2
  have e3 : ∀ b : Nat, b < 256 → g3 (g2 (g1 b)) = Go.Lib.popAux 8 b := fun b h => (n2 ⟨b, h⟩).2.2.2.1
  simp only [List.map_cons, List.map_nil, e3 b0 p0, e3 b1 p1, e3 b2 p2, e3 b3 p3, e3 b4 p4, e3 b5 p5, e3 b6 p6, e3 b7 p7] at q1 q2 q3
  have ho : Go.Lib.onesCount (ofB [b0, b1, b2, b3, b4, b5, b6, b7]) = Go.Lib.popAux 8 b0 + (Go.Lib.popAux 8 b1 + (Go.Lib.popAux 8 b2 + (Go.Lib.popAux 8 b3 + (Go.Lib.popAux 8 b4 + (Go.Lib.popAux 8 b5 + (Go.Lib.popAux 8 b6 + (Go.Lib.popAux 8 b7 + 0))))))) := by
    simp only [ofB]
    rw [Go.Lib.onesCount, pop_byte 56 _ _ p0, pop_byte 48 _ _ p1, pop_byte 40 _ _ p2, pop_byte 32 _ _ p3, pop_byte 24 _ _ p4, pop_byte 16 _ _ p5, pop_byte 8 _ _ p6, pop_byte 0 _ _ p7]
    rfl
  obtain ⟨r1, r2, r3, r4⟩ := tail_sum _ _ _ _ _ _ _ _ h0.2.2.2.2 h1.2.2.2.2 h2.2.2.2.2 h3.2.2.2.2 h4.2.2.2.2 h5.2.2.2.2 h6.2.2.2.2 h7.2.2.2.2 _ rfl
  have w1 : ofB [g1 b0, g1 b1, g1 b2, g1 b3, g1 b4, g1 b5, g1 b6, g1 b7] < 18446744073709551616 := p64 _ (ofB_lt [g1 b0, g1 b1, g1 b2, g1 b3, g1 b4, g1 b5, g1 b6, g1 b7] hg1)
  have w2 := ofB_le [g2 (g1 b0), g2 (g1 b1), g2 (g1 b2), g2 (g1 b3), g2 (g1 b4), g2 (g1 b5), g2 (g1 b6), g2 (g1 b7)] (fun b h => by have := hg2 b h; omega)
  have w3 := w3_ _ w2
  have w4 : ∀ a b c d e f g h : Nat, a ≤ 8 → b ≤ 8 → c ≤ 8 → d ≤ 8 → e ≤ 8 → f ≤ 8 → g ≤ 8 → h ≤ 8 → a + (b + (c + (d + (e + (f + (g + (h + 0))))))) ≤ 64 := by omega
  exact ⟨_, _, _, q1, w1, q2, w3.1, w3.2, q3, r1, r2, r3, r4.trans ho.symm, ho ▸ w4 _ _ _ _ _ _ _ _ h0.2.2.2.2 h1.2.2.2.2 h2.2.2.2.2 h3.2.2.2.2 h4.2.2.2.2 h5.2.2.2.2 h6.2.2.2.2 h7.2.2.2.2⟩
theorem pop_and_or : ∀ f x y : Nat, Go.Lib.popAux f (x &&& y) + Go.Lib.popAux f (x ||| y) = Go.Lib.popAux f x + Go.Lib.popAux f y
  | 0, _, _ => rfl
  | f + 1, x, y => by
    have ih := pop_and_or f (x / 2) (y / 2)
    simp only [Go.Lib.popAux]
    have e1 : (x &&& y) / 2 = x / 2 &&& y / 2 := Nat.and_div_two
    have e2 : (x ||| y) / 2 = x / 2 ||| y / 2 := Nat.or_div_two
    have e3 : (x &&& y) % 2 + (x ||| y) % 2 = x % 2 + y % 2 := by
      have a1 : (x &&& y) % 2 = x % 2 &&& y % 2 := Nat.and_mod_two_pow (n := 1)
      have a2 : (x ||| y) % 2 = x % 2 ||| y % 2 := Nat.or_mod_two_pow (n := 1)
      rw [a1, a2]
      rcases Nat.mod_two_eq_zero_or_one x with a | a <;> rcases Nat.mod_two_eq_zero_or_one y with b | b <;> rw [a, b] <;> rfl
    rw [e1, e2]
    omega
end Go.Proofs.BitP
