/- What the layer of words and its reference compute: lengths, digits, words of tuples; each of the program's and of the reference's functions comes to one plain function of lists. No condition but that numbers are 64 bits wide. -/
import Derived.Test.YtolacbnkebbjiaaWide
import Derived.Test.YtolacbnkebbjiaaX1
import Derived.Test.YtolacbnkebbjiaaX12
import Derived.Test.YtolacbnkebbjiaaX13
import Derived.Test.YtolacbnkebbjiaaX15
import Derived.Test.YtolacbnkebbjiaaX16
namespace Go.Proofs.Ytolacbnkebbjiaa.Pure
open Go.RowKit Go.Proofs.YtolacbnkebbjiaaW.PrintWords Go.Proofs.YtolacbnkebbjiaaW.PrintLast Go.Proofs.YtolacbnkebbjiaaW.PrintMore Go.Proofs.Ytolacbnkebbjiaa.X
set_option linter.unusedVariables false

theorem i64_of_wf {x : Int} (h : (Lit.int .i64 x).wf = true) : -9223372036854775808 ≤ x ∧ x ≤ 9223372036854775807 := by
  simp [Lit.wf, IntKind.min, IntKind.max, IntKind.signed, IntKind.bits] at h; omega
/-! ### Lists against each other -/
theorem list_eq_of {a b : List Int} (h : a.length = b.length) (he : ∀ i, i < a.length → rd a i = rd b i) : a = b := by
  apply List.ext_getElem h
  intro i h1 h2
  have := he i h1
  simp only [rd, Int.toNat_natCast, List.getD_eq_getElem?_getD, List.getElem?_eq_getElem h1, List.getElem?_eq_getElem h2, Option.getD_some] at this
  exact this
theorem same_ev {a b : List Int} (ha : a.length ≤ 9000000000000000000) : Ev (fun k => tabardlaw03_same.f k a b) (decide (a = b)) := by
  refine Ev.congr (fun k => by rw [tabardlaw03_same.f]) ?_
  refine Ev.ite (fun hl => ?_) (fun hl => ?_)
  · have hl' : a.length = b.length := by omega
    have key : ∀ (d i : Nat), i + d = a.length → (∀ j, j < i → rd a j = rd b j) → Ev (fun k => tabardlaw03_same.l0 k a b (a.length : Int) (i : Int)) (decide (a = b)) := by
      intro d
      induction d with
      | zero =>
        intro i hi hj
        refine Ev.step (fun k => by rw [tabardlaw03_same.l0]) (Ev.ncond (by omega) (Ev.fin ?_))
        rw [decide_eq_true]
        exact list_eq_of hl' fun j h => hj j (by omega)
      | succ d ih =>
        intro i hi hj
        refine Ev.step (fun k => by rw [tabardlaw03_same.l0]) ?_
        refine Ev.cond (by omega) (Ev.cond (by omega) (Ev.cond (by omega) (Ev.cond (by omega) ?_)))
        refine Ev.ite (fun he => ?_) (fun he => ?_)
        · rw [w64 (by omega) (by omega)]
          refine ih (i + 1) (by omega) fun j h => ?_
          rcases Nat.lt_succ_iff_lt_or_eq.1 h with h | rfl
          · exact hj j h
          · exact he
        · refine Ev.fin ?_
          rw [decide_eq_false]
          rintro rfl
          exact he rfl
    exact key a.length 0 (by omega) (fun j h => by omega)
  · refine Ev.fin ?_
    rw [decide_eq_false]
    rintro rfl
    exact hl rfl
theorem tuples_ev {a b : List Int} (ha : a.length ≤ 9000000000000000000) : Ev (fun k => tabardlaw03_tuples.f k a b) (decide (a = b)) := by
  refine Ev.congr (fun k => by rw [tabardlaw03_tuples.f]) ?_
  refine Ev.ite (fun hl => ?_) (fun hl => ?_)
  · have hl' : a.length = b.length := by omega
    have key : ∀ (d i : Nat), i + d = a.length → (∀ j, j < i → rd a j = rd b j) → Ev (fun k => tabardlaw03_tuples.l0 k a b (a.length : Int) (i : Int)) (decide (a = b)) := by
      intro d
      induction d with
      | zero =>
        intro i hi hj
        refine Ev.step (fun k => by rw [tabardlaw03_tuples.l0]) (Ev.ncond (by omega) (Ev.fin ?_))
        rw [decide_eq_true]
        exact list_eq_of hl' fun j h => hj j (by omega)
      | succ d ih =>
        intro i hi hj
        refine Ev.step (fun k => by rw [tabardlaw03_tuples.l0]) ?_
        refine Ev.cond (by omega) (Ev.cond (by omega) (Ev.cond (by omega) (Ev.cond (by omega) ?_)))
        refine Ev.ite (fun he => ?_) (fun he => ?_)
        · rw [w64 (by omega) (by omega)]
          refine ih (i + 1) (by omega) fun j h => ?_
          rcases Nat.lt_succ_iff_lt_or_eq.1 h with h | rfl
          · exact hj j h
          · exact he
        · refine Ev.fin ?_
          rw [decide_eq_false]
          rintro rfl
          exact he rfl
    exact key a.length 0 (by omega) (fun j h => by omega)
  · refine Ev.fin ?_
    rw [decide_eq_false]
    rintro rfl
    exact hl rfl

/-! ### Length -/
def uabs (v : Int) : Nat := if v < 0 then (-v - 1).toNat else v.toNat
def len2 (v : Int) : Nat := Go.Lib.bitLen (uabs v) + 1
def I64 (v : Int) : Prop := -9223372036854775808 ≤ v ∧ v ≤ 9223372036854775807
theorem uabs_lt {v : Int} (h : I64 v) : uabs v < 9223372036854775808 := by unfold uabs; unfold I64 at h; split <;> omega
theorem uabs_half (v : Int) : uabs (v / 2) = uabs v / 2 := by unfold uabs; split <;> split <;> omega
theorem uabs_zero {v : Int} : uabs v = 0 ↔ v = 0 ∨ v = -1 := by unfold uabs; split <;> omega
theorem bitLen_zero : Go.Lib.bitLen 0 = 0 := by decide
theorem bitLen_le {x f : Nat} (hf : f ≤ 64) (h : x < 2 ^ f) : Go.Lib.bitLen x ≤ f := by
  have hl : ∀ (g y : Nat), Go.Lib.bitLenAux g y ≤ g := by
    intro g
    induction g with
    | zero => intro y; simp [Go.Lib.bitLenAux]
    | succ g ih =>
      intro y
      rw [Go.Lib.bitLenAux]
      have := ih (y / 2)
      split <;> omega
  unfold Go.Lib.bitLen
  rw [Go.Lib.bitLenAux_fuel f x h 64 hf]
  exact hl f x
theorem len2_small {v : Int} (h : v = 0 ∨ v = -1) : len2 v = 1 := by unfold len2; rw [uabs_zero.2 h, bitLen_zero]
theorem len2_step {v : Int} (h : I64 v) (h0 : ¬ (v = 0 ∨ v = -1)) : len2 v = len2 (v / 2) + 1 := by
  have hu := uabs_lt h
  have hz : uabs v ≠ 0 := fun e => h0 (uabs_zero.1 e)
  unfold len2
  rw [Go.Lib.bitLen_half _ hz (by omega), uabs_half]; omega
theorem len2_le {v : Int} (h : I64 v) : len2 v ≤ 64 := by
  unfold len2
  have := bitLen_le (f := 63) (by omega) (uabs_lt h)
  omega
theorem len2_pos (v : Int) : 1 ≤ len2 v := by unfold len2; omega
theorem i64_half {v : Int} (h : I64 v) : I64 (v / 2) := by unfold I64 at *; omega
theorem xor_neg {v : Int} (h : I64 v) : Go.bits .xor .i64 (-1) v = -v - 1 := by
  unfold I64 at h
  have : Go.bits .xor .i64 (-1) v = IntKind.i64.wrap ((BitVec.ofInt 64 (-1) ^^^ BitVec.ofInt 64 v).toNat : Int) := rfl
  rw [this]
  have e1 : BitVec.ofInt 64 (-1) ^^^ BitVec.ofInt 64 v = ~~~ (BitVec.ofInt 64 v) := by
    have : BitVec.ofInt 64 (-1) = BitVec.allOnes 64 := by decide
    rw [this, BitVec.allOnes_xor]
  rw [e1, BitVec.toNat_not, BitVec.toNat_ofInt]
  have hw : ∀ z : Int, IntKind.i64.wrap z = (z + 9223372036854775808) % 18446744073709551616 - 9223372036854775808 := fun z => IntKind.wrap_i64 z
  rw [hw]
  omega
theorem length_eq {v : Int} (h : I64 v) : word_Length.f v = some (len2 v : Int) := by
  have hu := uabs_lt h
  have hl := len2_le h
  unfold I64 at h
  unfold word_Length.f
  by_cases hn : v < 0
  · rw [if_pos hn, xor_neg h, u64 (by omega) (by omega), bits_Len64.f, if_pos (by omega)]
    have : (-v - 1).toNat = uabs v := by unfold uabs; rw [if_pos hn]
    rw [this]
    unfold len2 at hl ⊢
    rw [Option.bind_some, w64 (by omega) (by omega)]; simp
  · rw [if_neg hn, u64 (by omega) (by omega), bits_Len64.f, if_pos (by omega)]
    have : v.toNat = uabs v := by unfold uabs; rw [if_neg hn]
    rw [this]
    unfold len2 at hl ⊢
    rw [Option.bind_some, w64 (by omega) (by omega)]; simp
theorem floor2_ev {v : Int} (h : I64 v) : Ev (fun k => tabardref01_Floor.f k v 2) (v / 2, 0) := by
  have hf := floorW_ev (a := v) (b := 2) h.1 h.2 (by omega) (by omega)
  unfold I64 at h
  have e : floorI v 2 = (v / 2, 0) := by
    unfold floorI toldI
    rw [if_neg (by omega), Int.fdiv_eq_ediv_of_nonneg _ (by omega), if_pos (by omega)]
  rw [e] at hf
  exact hf
theorem rlength_ev {v : Int} (h : I64 v) : Ev (fun k => tabardref03_Length.f k v) (len2 v : Int) := by
  have key : ∀ (d : Nat) (v : Int) (n : Nat), len2 v = d + 1 → I64 v → n + d ≤ 1000000 → Ev (fun k => tabardref03_Length.l0 k v (n : Int)) ((n + d : Nat) : Int) := by
    intro d
    induction d with
    | zero =>
      intro v n hd hv hn
      refine Ev.step (fun k => by rw [tabardref03_Length.l0]) ?_
      by_cases h0 : v = 0
      · exact Ev.cond h0 (Ev.now _)
      · refine Ev.ncond h0 ?_
        by_cases h1 : v = -1
        · exact Ev.cond h1 (Ev.now _)
        · exfalso
          have := len2_step hv (fun e => e.elim h0 h1)
          have := len2_pos (v / 2)
          omega
    | succ d ih =>
      intro v n hd hv hn
      refine Ev.step (fun k => by rw [tabardref03_Length.l0]) ?_
      have h0 : ¬ (v = 0 ∨ v = -1) := fun h0 => by have := len2_small h0; omega
      have hs := len2_step hv h0
      refine Ev.ncond (fun e => h0 (.inl e)) (Ev.ncond (fun e => h0 (.inr e)) ?_)
      refine Ev.bind (floor2_ev hv) ?_
      have := ih (v / 2) (n + 1) (by omega) (i64_half hv) (by omega)
      rw [show n + (d + 1) = n + 1 + d by omega]
      have e : wrap64 ((n : Int) + 1) = ((n + 1 : Nat) : Int) := by rw [w64 (by omega) (by omega)]; omega
      rw [e]
      exact this
  have hp := len2_pos v
  have hl := len2_le h
  have := key (len2 v - 1) v 1 (by omega) h (by omega)
  rw [show 1 + (len2 v - 1) = len2 v by omega] at this
  exact this

/-! ### Longest -/
def longest (l : List Int) : Nat := l.foldl (fun n v => max n (len2 v)) 1
def AllI (l : List Int) : Prop := ∀ v ∈ l, I64 v
theorem allI_rd {l : List Int} (h : AllI l) {i : Nat} (hi : i < l.length) : I64 (rd l (i : Int)) := by
  rw [rd_nat, List.getD_eq_getElem?_getD, List.getElem?_eq_getElem hi]
  exact h _ (List.getElem_mem hi)
theorem fold_from (l : List Int) (n : Nat) (hn : 1 ≤ n) (hn2 : n ≤ 64) (h : AllI l) : 1 ≤ l.foldl (fun n v => max n (len2 v)) n ∧ l.foldl (fun n v => max n (len2 v)) n ≤ 64 ∧ n ≤ l.foldl (fun n v => max n (len2 v)) n ∧ ∀ v ∈ l, len2 v ≤ l.foldl (fun n v => max n (len2 v)) n := by
  induction l generalizing n with
  | nil => exact ⟨hn, hn2, Nat.le_refl _, fun v hv => by simp at hv⟩
  | cons a l ih =>
    have ha := len2_le (h a (List.mem_cons_self ..))
    obtain ⟨h1, h2, h3, h4⟩ := ih (max n (len2 a)) (by omega) (by omega) (fun v hv => h v (List.mem_cons_of_mem _ hv))
    refine ⟨h1, h2, Nat.le_trans (Nat.le_max_left _ _) h3, fun v hv => ?_⟩
    rcases List.mem_cons.1 hv with rfl | hv
    · exact Nat.le_trans (Nat.le_max_right _ _) h3
    · exact h4 v hv
theorem longest_bd {l : List Int} (h : AllI l) : 1 ≤ longest l ∧ longest l ≤ 64 := ⟨(fold_from l 1 (by omega) (by omega) h).1, (fold_from l 1 (by omega) (by omega) h).2.1⟩
theorem longest_le {l : List Int} (h : AllI l) {v : Int} (hv : v ∈ l) : len2 v ≤ longest l := (fold_from l 1 (by omega) (by omega) h).2.2.2 v hv
theorem mx_nat (a b : Nat) : mx (a : Int) (b : Int) = ((max a b : Nat) : Int) := by unfold mx; split <;> omega
theorem fold_drop (l : List Int) (i n : Nat) (hi : i < l.length) : (l.drop i).foldl (fun n v => max n (len2 v)) n = (l.drop (i + 1)).foldl (fun n v => max n (len2 v)) (max n (len2 (rd l (i : Int)))) := by
  rw [List.drop_eq_getElem_cons hi, List.foldl_cons, rd_nat, List.getD_eq_getElem?_getD, List.getElem?_eq_getElem hi]; rfl
theorem longest_ev {l : List Int} (h : AllI l) (hl : l.length ≤ 9000000000000000000) : Ev (fun k => word_Longest.f k l) (longest l : Int) := by
  have key : ∀ (d i n : Nat), i + d = l.length → Ev (fun k => word_Longest.l0 k (n : Int) l (l.length : Int) (i : Int)) (((l.drop i).foldl (fun n v => max n (len2 v)) n : Nat) : Int) := by
    intro d
    induction d with
    | zero =>
      intro i n hi
      refine Ev.step (fun k => by rw [word_Longest.l0]) (Ev.ncond (by omega) (Ev.fin ?_))
      rw [List.drop_eq_nil_of_le (by omega)]; rfl
    | succ d ih =>
      intro i n hi
      refine Ev.step (fun k => by rw [word_Longest.l0]) ?_
      refine Ev.cond (by omega) (Ev.cond (by omega) (Ev.cond (by omega) ?_))
      refine Ev.ret (length_eq (allI_rd h (by omega))) ?_
      rw [mx_nat, w64 (by omega) (by omega), fold_drop l i n (by omega)]
      exact ih (i + 1) _ (by omega)
  have := key l.length 0 1 (by omega)
  exact this
theorem rlongest_ev {l : List Int} (h : AllI l) (hl : l.length ≤ 9000000000000000000) : Ev (fun k => tabardref03_Longest.f k l) (longest l : Int) := by
  have key : ∀ (d i n : Nat), i + d = l.length → Ev (fun k => tabardref03_Longest.l0 k l (n : Int) (i : Int)) (((l.drop i).foldl (fun n v => max n (len2 v)) n : Nat) : Int) := by
    intro d
    induction d with
    | zero =>
      intro i n hi
      refine Ev.step (fun k => by rw [tabardref03_Longest.l0]) (Ev.ncond (by omega) (Ev.fin ?_))
      rw [List.drop_eq_nil_of_le (by omega)]; rfl
    | succ d ih =>
      intro i n hi
      refine Ev.step (fun k => by rw [tabardref03_Longest.l0]) ?_
      refine Ev.cond (by omega) (Ev.cond (by omega) ?_)
      refine Ev.bind (rlength_ev (allI_rd h (by omega))) ?_
      rw [mx_nat, w64 (by omega) (by omega), fold_drop l i n (by omega)]
      exact ih (i + 1) _ (by omega)
  have := key l.length 0 1 (by omega)
  exact this

/-! ### Digits -/
def dgt (v : Int) (i : Nat) : Nat := (v / 2 ^ i % 2).toNat
theorem dgt_lt (v : Int) (i : Nat) : dgt v i < 2 := by unfold dgt; omega
theorem dgt_int (v : Int) (i : Nat) : (dgt v i : Int) = v / 2 ^ i % 2 := by unfold dgt; omega
theorem dgt_half (v : Int) (i : Nat) : dgt (v / 2) i = dgt v (i + 1) := by
  unfold dgt
  rw [Int.ediv_ediv_of_nonneg (by omega), Int.pow_succ, Int.mul_comm]
def digs (v : Int) (n : Nat) : List Int := (List.range n).map fun i => (dgt v i : Int)
theorem digs_length (v : Int) (n : Nat) : (digs v n).length = n := by simp [digs]
theorem digs_rd (v : Int) {n i : Nat} (h : i < n) : rd (digs v n) (i : Int) = (dgt v i : Int) := by
  rw [rd_nat, List.getD_eq_getElem?_getD, List.getElem?_eq_getElem (by rw [digs_length]; exact h)]
  simp [digs]
theorem and1_i64 {x : Int} (h : I64 x) : Go.bits .and .i64 x 1 = x % 2 := by
  unfold I64 at h
  have e0 : Go.bits .and .i64 x 1 = IntKind.i64.wrap ((BitVec.ofInt 64 x &&& BitVec.ofInt 64 1).toNat : Int) := rfl
  have e1 : (BitVec.ofInt 64 x &&& BitVec.ofInt 64 1).toNat = (BitVec.ofInt 64 x).toNat % 2 := by
    rw [BitVec.toNat_and, show (BitVec.ofInt 64 1).toNat = 2 ^ 1 - 1 from rfl, Nat.and_two_pow_sub_one_eq_mod]
  have hw : ∀ z : Int, IntKind.i64.wrap z = (z + 9223372036854775808) % 18446744073709551616 - 9223372036854775808 := fun z => IntKind.wrap_i64 z
  rw [e0, e1, hw, BitVec.toNat_ofInt]
  omega
theorem i64_shr {v : Int} (h : I64 v) (i : Nat) : I64 (v / 2 ^ i) := by
  induction i with
  | zero => simpa using h
  | succ i ih =>
    have e : v / 2 ^ (i + 1) = v / 2 ^ i / 2 := by rw [Int.pow_succ, Int.ediv_ediv_of_nonneg (Int.pow_nonneg (by omega))]
    rw [e]; exact i64_half ih
theorem shr_i64 (v : Int) {i : Nat} (h : i ≤ 64) : shr .i64 v (i : Int) = v / 2 ^ i := by
  unfold shr
  rw [Int.toNat_natCast, Nat.min_eq_left (by simpa [IntKind.bits] using h)]
theorem digit_of {v : Int} (h : I64 v) {i : Nat} (hi : i ≤ 64) : Go.bits .and .i64 (shr .i64 v (i : Int)) 1 = (dgt v i : Int) := by
  rw [shr_i64 v hi, and1_i64 (i64_shr h i), dgt_int]
theorem rdigits_ev {v : Int} (h : I64 v) {n : Nat} (hn : n ≤ 1000) : Ev (fun k => tabardref03_Digits.f k v (n : Int)) (digs v n) := by
  have key : ∀ (d i : Nat) (u : Int) (out : List Int), i + d = n → I64 u → out.length = i → Ev (fun k => tabardref03_Digits.l0 k u (n : Int) out (i : Int)) (out ++ digs u d) := by
    intro d
    induction d with
    | zero =>
      intro i u out hi hu ho
      refine Ev.step (fun k => by rw [tabardref03_Digits.l0]) (Ev.ncond (by omega) (Ev.fin ?_))
      simp [digs]
    | succ d ih =>
      intro i u out hi hu ho
      have hd : digs u (d + 1) = (dgt u 0 : Int) :: digs (u / 2) d := by
        unfold digs
        rw [List.range_succ_eq_map, List.map_cons, List.map_map]
        congr 1
        apply List.map_congr_left
        intro j _
        simp [dgt_half]
      have h0 : (dgt u 0 : Int) = u % 2 := by rw [dgt_int]; simp
      refine Ev.step (fun k => by rw [tabardref03_Digits.l0]) (Ev.cond (by omega) ?_)
      have go : ∀ x : Int, x = u % 2 → Ev (fun k => if out.length < 17592186044416 then (tabardref01_Floor.f k u 2).bind (fun b => tabardref03_Digits.l0 k b.1 (n : Int) (out ++ [x]) (wrap64 ((i : Int) + 1))) else none) (out ++ digs u (d + 1)) := by
        intro x hx
        refine Ev.cond (by omega) (Ev.bind (floor2_ev hu) ?_)
        have e : wrap64 ((i : Int) + 1) = ((i + 1 : Nat) : Int) := by rw [w64 (by omega) (by omega)]; omega
        rw [e, hd, h0, hx]
        have := ih (i + 1) (u / 2) (out ++ [u % 2]) (by omega) (i64_half hu) (by simp [ho])
        rw [List.append_assoc] at this
        exact this
      have ht : Int.tmod u 2 = if u < 0 then -((-u) % 2) else u % 2 := by
        split
        · rw [show Int.tmod u 2 = Int.tmod (-(-u)) 2 by rw [Int.neg_neg], Int.neg_tmod, Int.tmod_eq_emod_of_nonneg (by omega)]
        · rw [Int.tmod_eq_emod_of_nonneg (by omega)]
      refine Ev.ite (fun hc => go _ ?_) (fun hc => go _ ?_)
      · rw [ht] at hc; split at hc <;> omega
      · rw [ht] at hc ⊢; split <;> split at hc <;> omega
  have := key n 0 v [] (by omega) h rfl
  exact this
end Go.Proofs.Ytolacbnkebbjiaa.Pure
