/- Digits and Number of the layer of words and of its reference come to one plain function; no condition but that numbers are 64 bits wide. -/
import Derived.Test.YtolacbnkebbjiaaWordA
import Derived.Test.YtolacbnkebbjiaaX18
import Derived.Test.YtolacbnkebbjiaaX19
import Derived.Test.YtolacbnkebbjiaaX20
import Derived.Test.YtolacbnkebbjiaaX21
namespace Go.Proofs.Ytolacbnkebbjiaa.Pure
open Go.RowKit Go.Proofs.YtolacbnkebbjiaaW.PrintWords Go.Proofs.YtolacbnkebbjiaaW.PrintLast Go.Proofs.YtolacbnkebbjiaaW.PrintMore Go.Proofs.Ytolacbnkebbjiaa.X
set_option linter.unusedVariables false

/-! ### Digits -/
def digS (v n : Int) : List Int × Int := if n < (len2 v : Int) ∨ n > 64 then ([], 2) else (digs v n.toNat, 0)
def zed (v : Int) (n i : Nat) : List Int := (List.range n).map fun j => if j < i then (dgt v j : Int) else 0
theorem zed_length (v : Int) (n i : Nat) : (zed v n i).length = n := by simp [zed]
theorem zed_set (v : Int) {n i : Nat} (h : i < n) : (zed v n i).set i (dgt v i : Int) = zed v n (i + 1) := by
  apply List.ext_getElem
  · simp [zed]
  · intro j h1 h2
    rw [List.getElem_set]
    by_cases e : i = j
    · subst e; simp [zed]
    · rw [if_neg e]
      simp only [zed, List.getElem_map, List.getElem_range]
      by_cases hj : j < i
      · rw [if_pos hj, if_pos (by omega)]
      · rw [if_neg hj, if_neg (by omega)]
theorem zed_none (v : Int) (n : Nat) : zed v n 0 = List.replicate n 0 := by
  apply List.ext_getElem
  · simp [zed]
  · intro j h1 h2; simp [zed]
theorem zed_full (v : Int) (n : Nat) : zed v n n = digs v n := by
  unfold zed digs
  apply List.map_congr_left
  intro j hj
  rw [List.mem_range] at hj
  rw [if_pos hj]
theorem digits_ev {v : Int} (h : I64 v) (n : Int) : Ev (fun k => word_Digits.f k v n) (digS v n) := by
  refine Ev.congr (fun k => by rw [word_Digits.f]) ?_
  refine Ev.ret (length_eq h) ?_
  unfold digS
  have hp := len2_pos v
  have bad : Ev (fun k => word_Digits.j0 k v n true) (([] : List Int), 2) := Ev.step (fun k => by rw [word_Digits.j0]) (Ev.cond rfl (Ev.now _))
  refine Ev.ite (fun hc => ?_) (fun hc => ?_)
  · rw [if_pos (.inl hc)]; exact bad
  by_cases h64 : n > 64
  · rw [if_pos (.inr h64), decide_eq_true h64]; exact bad
  rw [if_neg (by omega), decide_eq_false h64]
  obtain ⟨m, rfl⟩ := Int.eq_ofNat_of_zero_le (show 0 ≤ n by omega)
  refine Ev.step (fun k => by rw [word_Digits.j0]) (Ev.ncond (by simp) (Ev.cond (by omega) (Ev.cond (by omega) (Ev.ret rfl ?_))))
  rw [Int.toNat_natCast, ← zed_none v m]
  have loop : ∀ (d i : Nat), i + d = m → Ev (fun k => word_Digits.l0 k v (zed v m i) ((zed v m 0).length : Int) (i : Int)) (digs v m, 0) := by
    intro d
    induction d with
    | zero =>
      intro i hi
      refine Ev.step (fun k => by rw [word_Digits.l0]) (Ev.ncond (by rw [zed_length]; omega) (Ev.fin ?_))
      obtain rfl : i = m := by omega
      rw [zed_full]
    | succ d ih =>
      intro i hi
      refine Ev.step (fun k => by rw [word_Digits.l0]) ?_
      refine Ev.cond (by rw [zed_length]; omega) (Ev.cond (by omega) (Ev.cond (by rw [zed_length]; omega) ?_))
      rw [digit_of h (by omega), Int.toNat_natCast, w64 (by omega) (by omega), zed_set v (show i < m by omega)]
      exact ih (i + 1) (by omega)
  exact loop m 0 (by omega)

/-! ### Number -/
def Bits (l : List Int) : Prop := ∀ d ∈ l, d = 0 ∨ d = 1
instance (l : List Int) : Decidable (Bits l) := inferInstanceAs (Decidable (∀ d ∈ l, d = 0 ∨ d = 1))
def uv : List Int → Nat
  | [] => 0
  | d :: ds => d.toNat + 2 * uv ds
/-- Two's complement. -/
def tv : List Int → Int
  | [] => 0
  | [d] => -d
  | d :: e :: ds => d + 2 * tv (e :: ds)
theorem bits_tail {d : Int} {l : List Int} (h : Bits (d :: l)) : Bits l := fun x hx => h x (List.mem_cons_of_mem _ hx)
theorem bits_head {d : Int} {l : List Int} (h : Bits (d :: l)) : d = 0 ∨ d = 1 := h d (List.mem_cons_self ..)
theorem uv_lt {l : List Int} (h : Bits l) : uv l < 2 ^ l.length := by
  induction l with
  | nil => simp [uv]
  | cons d ds ih =>
    have := ih (bits_tail h)
    rw [uv, List.length_cons, Nat.pow_succ]
    rcases bits_head h with rfl | rfl <;> simp <;> omega
theorem tv_uv {l : List Int} (h : Bits l) (hl : l ≠ []) : tv l = (uv l : Int) - (if 2 ^ (l.length - 1) ≤ uv l then ((2 ^ l.length : Nat) : Int) else 0) := by
  induction l with
  | nil => exact absurd rfl hl
  | cons d ds ih =>
    cases ds with
    | nil => rcases bits_head h with rfl | rfl <;> simp [tv, uv]
    | cons e ds =>
      have ih' := ih (bits_tail h) (by simp)
      have e3 : uv (d :: e :: ds) = d.toNat + 2 * uv (e :: ds) := rfl
      rw [tv, ih', e3]
      simp only [List.length_cons, Nat.add_sub_cancel] at ih' ⊢
      generalize uv (e :: ds) = u
      have e1 : 2 ^ (ds.length + 1) = 2 * 2 ^ ds.length := by rw [Nat.pow_succ, Nat.mul_comm]
      have e2 : 2 ^ (ds.length + 1 + 1) = 2 * 2 ^ (ds.length + 1) := by rw [Nat.pow_succ, Nat.mul_comm]
      rw [e2, e1]
      generalize 2 ^ ds.length = p
      rcases bits_head h with rfl | rfl
      · by_cases hp : p ≤ u
        · rw [if_pos hp, if_pos (by simp; omega)]; simp; omega
        · rw [if_neg hp, if_neg (by simp; omega)]; simp
      · by_cases hp : p ≤ u
        · rw [if_pos hp, if_pos (by simp; omega)]; simp; omega
        · rw [if_neg hp, if_neg (by simp; omega)]; simp
theorem tv_bd {l : List Int} (h : Bits l) (hl : l ≠ []) : -((2 ^ (l.length - 1) : Nat) : Int) ≤ tv l ∧ tv l < ((2 ^ (l.length - 1) : Nat) : Int) := by
  have h1 := uv_lt h
  have h2 := tv_uv h hl
  have h3 : 2 ^ l.length = 2 * 2 ^ (l.length - 1) := by
    have : l.length ≠ 0 := fun e => hl (List.eq_nil_of_length_eq_zero e)
    rw [← Nat.pow_succ']; congr 1; omega
  rw [h3] at h1 h2
  rw [h2]
  generalize 2 ^ (l.length - 1) = p at *
  split <;> omega
theorem pow63 {m : Nat} (h : m ≤ 63) : 2 ^ m ≤ 9223372036854775808 := by
  have : 2 ^ m ≤ 2 ^ 63 := Nat.pow_le_pow_right (by omega) h
  simpa using this
theorem tv_i64 {l : List Int} (h : Bits l) (hl : l ≠ []) (h64 : l.length ≤ 64) : I64 (tv l) := by
  have := tv_bd h hl
  have := pow63 (show l.length - 1 ≤ 63 by omega)
  unfold I64
  omega
/-- What Number answers. -/
def numS (l : List Int) : Int × Int := if l = [] ∨ ¬ Bits l then (0, 3) else if l.length > 64 then (0, 31) else (tv l, 0)
theorem bits_dec (l : List Int) : Bits l ∨ ∃ i, i < l.length ∧ (∀ j, j < i → rd l (j : Int) = 0 ∨ rd l (j : Int) = 1) ∧ rd l (i : Int) ≠ 0 ∧ rd l (i : Int) ≠ 1 := by
  induction l with
  | nil => exact .inl fun d hd => by simp at hd
  | cons d ds ih =>
    by_cases hd : d = 0 ∨ d = 1
    · rcases ih with ih | ⟨i, h1, h2, h3⟩
      · exact .inl fun x hx => by
          rcases List.mem_cons.1 hx with rfl | hx
          · exact hd
          · exact ih x hx
      · refine .inr ⟨i + 1, by simpa using h1, fun j hj => ?_, by simpa [rd] using h3⟩
        cases j with
        | zero => simpa [rd] using hd
        | succ j => have := h2 j (by omega); simpa [rd] using this
    · exact .inr ⟨0, by simp, fun j hj => absurd hj (Nat.not_lt_zero _), by simpa [rd] using not_or.1 hd⟩
theorem bits_rd {l : List Int} (h : Bits l) {i : Nat} (hi : i < l.length) : rd l (i : Int) = 0 ∨ rd l (i : Int) = 1 := by
  rw [rd_nat, List.getD_eq_getElem?_getD, List.getElem?_eq_getElem hi]
  exact h _ (List.getElem_mem hi)
theorem bits_of_rd {l : List Int} (h : ∀ i, i < l.length → rd l (i : Int) = 0 ∨ rd l (i : Int) = 1) : Bits l := by
  intro d hd
  obtain ⟨i, hi, rfl⟩ := List.getElem_of_mem hd
  have := h i hi
  rwa [rd_nat, List.getD_eq_getElem?_getD, List.getElem?_eq_getElem hi] at this
theorem any_noDigit (l : List Int) : l.any noDigit = decide (¬ Bits l) := by
  rw [Bool.eq_iff_iff, List.any_eq_true, decide_eq_true_iff]
  constructor
  · rintro ⟨x, hx, hn⟩ hb
    rcases hb x hx with rfl | rfl <;> simp [noDigit] at hn
  · intro hb
    rcases bits_dec l with h | ⟨i, h1, _, h2, h3⟩
    · exact absurd h hb
    · rw [rd_nat, List.getD_eq_getElem?_getD, List.getElem?_eq_getElem h1] at h2 h3
      exact ⟨_, List.getElem_mem h1, by simp [noDigit]; exact ⟨h2, h3⟩⟩
theorem or_i64 {u d i : Nat} (hu : u < 2 ^ i) (hd : d < 2) (hi : i ≤ 63) : Go.bits .or .i64 (wrap64 (u : Int)) (shl .i64 (d : Int) (i : Int)) = wrap64 ((u + d * 2 ^ i : Nat) : Int) := by
  have hp := pow63 hi
  have hdp : d * 2 ^ i ≤ 1 * 2 ^ i := Nat.mul_le_mul_right _ (by omega)
  have e0 : ∀ x y : Int, Go.bits .or .i64 x y = IntKind.i64.wrap ((BitVec.ofInt 64 x ||| BitVec.ofInt 64 y).toNat : Int) := fun _ _ => rfl
  have hw : ∀ z : Int, IntKind.i64.wrap z = wrap64 z := fun z => i64_w z
  have eb : ∀ z : Nat, z < 18446744073709551616 → (BitVec.ofInt 64 (wrap64 (z : Int))).toNat = z := by
    intro z hz
    rw [BitVec.toNat_ofInt]
    unfold wrap64
    omega
  have e1 : shl .i64 (d : Int) (i : Int) = wrap64 ((d * 2 ^ i : Nat) : Int) := by
    unfold shl
    rw [Int.toNat_natCast, Nat.min_eq_left (by simp [IntKind.bits]; omega), show (d : Int) * 2 ^ i = ((d * 2 ^ i : Nat) : Int) by simp, hw]
  rw [e0, e1, BitVec.toNat_or, eb u (by omega), eb _ (by omega), hw, Nat.or_comm, Nat.mul_comm d, ← Nat.two_pow_add_eq_or_of_lt hu d]
  congr 2
  omega
theorem uv_take (l : List Int) (h : Bits l) (i : Nat) (hi : i < l.length) : uv (l.take (i + 1)) = uv (l.take i) + (rd l (i : Int)).toNat * 2 ^ i := by
  induction l generalizing i with
  | nil => simp at hi
  | cons d ds ih =>
    cases i with
    | zero => simp [uv, rd]
    | succ i =>
      rw [List.take_succ_cons, List.take_succ_cons, uv, uv, ih (bits_tail h) i (by simpa using hi)]
      have : rd (d :: ds) ((i + 1 : Nat) : Int) = rd ds (i : Int) := by simp [rd]
      rw [this, Nat.pow_succ, Nat.mul_add, Nat.add_assoc]
      congr 2
      rw [Nat.mul_comm 2, Nat.mul_assoc]
theorem number_ev {l : List Int} (hl : l.length ≤ 9000000000000000000) : Ev (fun k => word_Number.f k l) (numS l) := by
  refine Ev.congr (fun k => by rw [word_Number.f]) ?_
  unfold numS
  have bad : Ev (fun k => word_Number.j0 k l true) ((0 : Int), 3) := Ev.step (fun k => by rw [word_Number.j0]) (Ev.cond rfl (Ev.now _))
  refine Ev.ite (fun h0 => ?_) (fun h0 => ?_)
  · rw [if_pos (.inl (List.eq_nil_of_length_eq_zero (by omega)))]; exact bad
  have hne : l ≠ [] := fun e => h0 (by rw [e]; rfl)
  refine Ev.ret (show slices_ContainsFunc_int_int.f l = some (decide (¬ Bits l)) by unfold slices_ContainsFunc_int_int.f; rw [any_noDigit]) ?_
  by_cases hnb : ¬ Bits l
  · rw [if_pos (.inr hnb), decide_eq_true hnb]; exact bad
  have hb : Bits l := Decidable.not_not.1 hnb
  rw [if_neg (fun h => h.elim hne (fun h => h hb)), decide_eq_false (fun h => h hb)]
  refine Ev.step (fun k => by rw [word_Number.j0]) (Ev.ncond (by simp) ?_)
  by_cases h64 : l.length > 64
  · rw [if_pos h64]; exact Ev.cond (by omega) (Ev.now _)
  rw [if_neg h64]
  refine Ev.ncond (by omega) ?_
  have loop : ∀ (d i : Nat), i + d = l.length → Ev (fun k => word_Number.l0 k l (wrap64 ((uv (l.take i) : Nat) : Int)) l (l.length : Int) (i : Int)) (tv l, 0) := by
    intro d
    induction d with
    | zero =>
      intro i hi
      refine Ev.step (fun k => by rw [word_Number.l0]) (Ev.ncond (by omega) ?_)
      have es : wrap64 (64 - (l.length : Int)) = ((64 - l.length : Nat) : Int) := by rw [w64 (by omega) (by omega)]; omega
      rw [es]
      refine Ev.cond (by omega) (Ev.fin ?_)
      rw [List.take_of_length_le (by omega), tv_uv hb hne]
      have hu := uv_lt hb
      have h1 : 2 ^ l.length * 2 ^ (64 - l.length) = 18446744073709551616 := by rw [← Nat.pow_add, show l.length + (64 - l.length) = 64 by omega]
      have h3 : 2 ^ l.length = 2 * 2 ^ (l.length - 1) := by
        rw [← Nat.pow_succ']; congr 1; omega
      have hw : ∀ z : Int, IntKind.i64.wrap z = wrap64 z := fun z => i64_w z
      unfold shr shl
      rw [Int.toNat_natCast, Nat.min_eq_left (by simp [IntKind.bits]), hw]
      have hc : (2 : Int) ^ (64 - l.length) = ((2 ^ (64 - l.length) : Nat) : Int) := by simp
      rw [hc]
      have hpos : 0 < 2 ^ (64 - l.length) := Nat.two_pow_pos _
      generalize 2 ^ (64 - l.length) = s at h1 hpos
      rw [h3] at h1 hu ⊢
      generalize 2 ^ (l.length - 1) = p at h1 hu ⊢
      generalize uv l = u at hu ⊢
      have hps : 2 * (p * s) = 18446744073709551616 := by rw [← Nat.mul_assoc]; exact h1
      have hmod : wrap64 (wrap64 (u : Int) * (s : Int)) = wrap64 ((u * s : Nat) : Int) := by
        unfold wrap64
        have : ∃ q : Int, (((u : Int) + 9223372036854775808) % 18446744073709551616 - 9223372036854775808) = (u : Int) - 18446744073709551616 * q := ⟨((u : Int) + 9223372036854775808) / 18446744073709551616, by omega⟩
        obtain ⟨q, hq⟩ := this
        rw [hq, Int.sub_mul, Int.mul_assoc]
        generalize q * (s : Int) = z
        rw [show ((u * s : Nat) : Int) = (u : Int) * (s : Int) by simp]
        generalize (u : Int) * (s : Int) = y
        omega
      rw [hmod]
      congr 1
      by_cases hp : p ≤ u
      · rw [if_pos hp]
        have a1 : p * s ≤ u * s := Nat.mul_le_mul_right _ hp
        have a2 : u * s < 2 * p * s := Nat.mul_lt_mul_of_pos_right hu hpos
        rw [h1] at a2
        have : wrap64 ((u * s : Nat) : Int) = ((u : Int) - ((2 * p : Nat) : Int)) * (s : Int) := by
          rw [Int.sub_mul, show ((2 * p : Nat) : Int) * (s : Int) = ((2 * p * s : Nat) : Int) by simp, h1, show (u : Int) * (s : Int) = ((u * s : Nat) : Int) by simp]
          unfold wrap64
          generalize u * s = y at a1 a2
          omega
        rw [this, Int.mul_ediv_cancel _ (by omega)]
      · rw [if_neg hp]
        have a1 : u * s < p * s := Nat.mul_lt_mul_of_pos_right (by omega) hpos
        have : wrap64 ((u * s : Nat) : Int) = (u : Int) * (s : Int) := by
          rw [w64 (by omega) (by omega)]; simp
        rw [this, Int.mul_ediv_cancel _ (by omega)]
        simp
    | succ d ih =>
      intro i hi
      refine Ev.step (fun k => by rw [word_Number.l0]) ?_
      refine Ev.cond (by omega) (Ev.cond (by omega) (Ev.cond (by omega) ?_))
      have hbi := bits_rd hb (show i < l.length by omega)
      have hui := uv_lt (l := l.take i) (fun x hx => hb x (List.mem_of_mem_take hx))
      rw [List.length_take, Nat.min_eq_left (by omega)] at hui
      have e1 : rd l (i : Int) = (((rd l (i : Int)).toNat : Nat) : Int) := by omega
      have hd : (rd l (i : Int)).toNat < 2 := by omega
      have e2 := or_i64 hui hd (show i ≤ 63 by omega)
      rw [← e1, ← uv_take l hb i (by omega)] at e2
      rw [e2, w64 (x := (i : Int) + 1) (by omega) (by omega)]
      exact ih (i + 1) (by omega)
  have := loop l.length 0 (by omega)
  simpa [uv, wrap64] using this
theorem tv_drop {l : List Int} {i : Nat} (h : i + 1 < l.length) : tv (l.drop i) = rd l (i : Int) + 2 * tv (l.drop (i + 1)) := by
  have h1 : l.drop i = l[i] :: l.drop (i + 1) := List.drop_eq_getElem_cons (by omega)
  have h2 : l.drop (i + 1) = l[i + 1] :: l.drop (i + 1 + 1) := List.drop_eq_getElem_cons h
  rw [h1, rd_nat, List.getD_eq_getElem?_getD, List.getElem?_eq_getElem (show i < l.length by omega)]
  rw [h2, tv]; rfl
theorem tv_last {l : List Int} (h : l ≠ []) : tv (l.drop (l.length - 1)) = -(rd l ((l.length - 1 : Nat) : Int)) := by
  have hp : 0 < l.length := List.length_pos_iff.2 h
  have h1 : l.drop (l.length - 1) = l[l.length - 1] :: l.drop (l.length - 1 + 1) := List.drop_eq_getElem_cons (by omega)
  rw [h1, List.drop_eq_nil_of_le (by omega), tv, rd_nat, List.getD_eq_getElem?_getD, List.getElem?_eq_getElem (show l.length - 1 < l.length by omega)]; rfl
theorem value_ev {l : List Int} (hb : Bits l) (hne : l ≠ []) (h64 : l.length ≤ 64) : Ev (fun k => tabardref03_Value.f k l) (neg (tv l), mag (tv l)) := by
  have hp : 0 < l.length := List.length_pos_iff.2 hne
  refine Ev.congr (fun k => by rw [tabardref03_Value.f]) ?_
  have e1 : wrap64 ((l.length : Int) - 1) = ((l.length - 1 : Nat) : Int) := by rw [w64 (by omega) (by omega)]; omega
  have e2 : wrap64 ((l.length : Int) - 2) = ((l.length - 1 : Nat) : Int) - 1 := by rw [w64 (by omega) (by omega)]; omega
  rw [e1, e2]
  have hl := bits_rd hb (show l.length - 1 < l.length by omega)
  have e3 : wrap64 (-(rd l ((l.length - 1 : Nat) : Int))) = tv (l.drop (l.length - 1)) := by
    rw [tv_last hne, w64 (by omega) (by omega)]
  refine Ev.cond (by omega) (Ev.cond (by omega) ?_)
  rw [e3]
  have bd : ∀ i, i < l.length → I64 (tv (l.drop i)) := fun i hi => tv_i64 (fun x hx => hb x (List.mem_of_mem_drop hx)) (fun e => by have := congrArg List.length e; rw [List.length_drop, List.length_nil] at this; omega) (by rw [List.length_drop]; omega)
  have hbl := bd (l.length - 1) (by omega)
  unfold I64 at hbl
  refine Ev.bind (ofW_ev hbl.1 hbl.2) ?_
  have loop : ∀ i : Nat, i < l.length → Ev (fun k => tabardref03_Value.l0 k l ((i : Int) - 1) (neg (tv (l.drop i))) (mag (tv (l.drop i)))) (neg (tv l), mag (tv l)) := by
    intro i
    induction i with
    | zero =>
      intro _
      refine Ev.step (fun k => by rw [tabardref03_Value.l0]) (Ev.ncond (by omega) (Ev.fin ?_))
      rw [List.drop_zero]
    | succ i ih =>
      intro hi
      have b1 := bd (i + 1) hi
      have hd := bits_rd hb (show i < l.length by omega)
      have ht := tv_drop hi
      generalize tv (l.drop (i + 1)) = x at b1 ht
      unfold I64 at b1
      have hx : x.natAbs < big := big_int (by omega) (by omega)
      refine Ev.step (fun k => by rw [tabardref03_Value.l0]) ?_
      rw [show (((i + 1 : Nat) : Int) - 1) = (i : Int) by omega]
      refine Ev.cond (by omega) (Ev.bind (plusW_ev hx hx) (Ev.cond (by omega) (Ev.cond (by omega) ?_)))
      refine Ev.bind (ofW_ev (n := rd l (i : Int)) (by omega) (by omega)) ?_
      refine Ev.bind (plusW_ev (n := x + x) (m := rd l (i : Int)) (big_int (by omega) (by omega)) (big_int (by omega) (by omega))) ?_
      rw [w64 (by omega) (by omega), show x + x + rd l (i : Int) = tv (l.drop i) by omega]
      exact ih (by omega)
  exact loop (l.length - 1) (by omega)
theorem rnumber_ev {l : List Int} (hl : l.length ≤ 9000000000000000000) : Ev (fun k => tabardref03_Number.f k l) (numS l) := by
  refine Ev.congr (fun k => by rw [tabardref03_Number.f]) ?_
  refine Ev.ite (fun h0 => ?_) (fun h0 => ?_)
  · refine Ev.fin ?_
    unfold numS
    rw [if_pos (.inl (List.eq_nil_of_length_eq_zero (by omega)))]
  have hne : l ≠ [] := fun e => h0 (by rw [e]; rfl)
  rcases bits_dec l with hb | ⟨z, hz, hz1, hz2, hz3⟩
  · have loop : ∀ (d i : Nat), i + d = l.length → Ev (fun k => tabardref03_Number.l0 k l (i : Int)) (numS l) := by
      intro d
      induction d with
      | zero =>
        intro i hi
        unfold numS
        rw [if_neg (fun h => h.elim hne (fun h => h hb))]
        refine Ev.step (fun k => by rw [tabardref03_Number.l0]) (Ev.ncond (by omega) ?_)
        by_cases h64 : l.length > 64
        · rw [if_pos h64]; exact Ev.cond (by omega) (Ev.now _)
        · rw [if_neg h64]
          have hi64 := tv_i64 hb hne (by omega)
          unfold I64 at hi64
          have hf := fitsW_ev (n := tv l) (big_int (by omega) (by omega))
          rw [if_pos hi64] at hf
          exact Ev.ncond (by omega) (Ev.bind (value_ev hb hne (by omega)) (Ev.bind hf (Ev.fin rfl)))
      | succ d ih =>
        intro i hi
        refine Ev.step (fun k => by rw [tabardref03_Number.l0]) (Ev.cond (by omega) (Ev.cond (by omega) ?_))
        rw [w64 (by omega) (by omega)]
        refine Ev.ite (fun _ => ih (i + 1) (by omega)) (fun h1 => Ev.ite (fun _ => ih (i + 1) (by omega)) (fun h2 => ?_))
        rcases bits_rd hb (show i < l.length by omega) with h | h
        · exact absurd h h1
        · exact absurd h h2
    exact loop l.length 0 (by omega)
  · have hnb : ¬ Bits l := fun hb => (bits_rd hb hz).elim hz2 hz3
    unfold numS
    rw [if_pos (.inr hnb)]
    have loop : ∀ (d i : Nat), i + d = z → Ev (fun k => tabardref03_Number.l0 k l (i : Int)) ((0 : Int), 3) := by
      intro d
      induction d with
      | zero =>
        intro i hi
        obtain rfl : i = z := by omega
        refine Ev.step (fun k => by rw [tabardref03_Number.l0]) (Ev.cond (by omega) (Ev.cond (by omega) ?_))
        exact Ev.ncond hz2 (Ev.ncond hz3 (Ev.now _))
      | succ d ih =>
        intro i hi
        refine Ev.step (fun k => by rw [tabardref03_Number.l0]) (Ev.cond (by omega) (Ev.cond (by omega) ?_))
        rw [w64 (by omega) (by omega)]
        refine Ev.ite (fun _ => ih (i + 1) (by omega)) (fun h1 => Ev.ite (fun _ => ih (i + 1) (by omega)) (fun h2 => ?_))
        rcases hz1 i (by omega) with h | h
        · exact absurd h h1
        · exact absurd h h2
    exact loop z 0 (by omega)
end Go.Proofs.Ytolacbnkebbjiaa.Pure
