/- Words of tuples: the program's Encode and Shortest and the reference's come to one plain function; so each WordEncodes is true. No condition but that numbers are 64 bits wide. -/
import Derived.Test.YtolacbnkebbjiaaWordA
import Derived.Test.YtolacbnkebbjiaaX14
import Derived.Test.YtolacbnkebbjiaaX15
import Derived.Test.YtolacbnkebbjiaaX2
namespace Go.Proofs.Ytolacbnkebbjiaa.Pure
open Go.RowKit Go.Proofs.YtolacbnkebbjiaaW.PrintWords Go.Proofs.YtolacbnkebbjiaaW.PrintLast Go.Proofs.YtolacbnkebbjiaaW.PrintMore Go.Proofs.Ytolacbnkebbjiaa.X
set_option linter.unusedVariables false

/-! ### The word of a tuple -/
def lt (l : List Int) : Nat → Nat → Nat
  | 0, _ => 0
  | t + 1, i => lt l t i + dgt (rd l (t : Int)) i * 2 ^ t
theorem lt_lt (l : List Int) (t i : Nat) : lt l t i < 2 ^ t := by
  induction t with
  | zero => simp [lt]
  | succ t ih =>
    have := dgt_lt (rd l (t : Int)) i
    rw [lt, Nat.pow_succ]
    have h2 : dgt (rd l (t : Int)) i * 2 ^ t ≤ 1 * 2 ^ t := Nat.mul_le_mul_right _ (by omega)
    omega
def upd (l : List Int) (n t i : Nat) : List Int := (List.range n).map fun j => ((if j < i then lt l (t + 1) j else lt l t j : Nat) : Int)
def enc (l : List Int) (n : Nat) : List Int := (List.range n).map fun j => (lt l l.length j : Int)
theorem upd_length (l : List Int) (n t i : Nat) : (upd l n t i).length = n := by simp [upd]
theorem upd_rd (l : List Int) {n t i j : Nat} (h : j < n) : rd (upd l n t i) (j : Int) = ((if j < i then lt l (t + 1) j else lt l t j : Nat) : Int) := by
  rw [rd_nat, List.getD_eq_getElem?_getD, List.getElem?_eq_getElem (by rw [upd_length]; exact h)]
  simp [upd]
theorem upd_set (l : List Int) {n t i : Nat} (h : i < n) : (upd l n t i).set i (lt l (t + 1) i : Int) = upd l n t (i + 1) := by
  apply List.ext_getElem
  · simp [upd]
  · intro j h1 h2
    rw [List.getElem_set]
    by_cases e : i = j
    · subst e; simp [upd]
    · rw [if_neg e]
      simp only [upd, List.getElem_map, List.getElem_range]
      by_cases hj : j < i
      · rw [if_pos hj, if_pos (by omega)]
      · rw [if_neg hj, if_neg (by omega)]
theorem upd_full (l : List Int) (n t : Nat) : upd l n t n = upd l n (t + 1) 0 := by
  unfold upd
  apply List.map_congr_left
  intro j hj
  rw [List.mem_range] at hj
  rw [if_pos hj, if_neg (by omega)]
theorem upd_none (l : List Int) (n : Nat) : upd l n 0 0 = List.replicate n 0 := by
  unfold upd
  apply List.ext_getElem
  · simp
  · intro j h1 h2; simp [lt]
theorem upd_enc (l : List Int) (n : Nat) : upd l n l.length 0 = enc l n := by
  unfold upd enc
  apply List.map_congr_left
  intro j hj
  rw [if_neg (by omega)]
theorem pow_le6 {t : Nat} (h : t ≤ 6) : 2 ^ t ≤ 64 := by
  have : 2 ^ t ≤ 2 ^ 6 := Nat.pow_le_pow_right (by omega) h
  simpa using this
theorem or_shl {a d t : Nat} (ha : a < 2 ^ t) (hd : d < 2) (ht : t ≤ 6) : Go.bits .or .i64 (a : Int) (shl .i64 (d : Int) (t : Int)) = ((a + d * 2 ^ t : Nat) : Int) := by
  have hp := pow_le6 ht
  have hdp : d * 2 ^ t ≤ 1 * 2 ^ t := Nat.mul_le_mul_right _ (by omega)
  have e1 : shl .i64 (d : Int) (t : Int) = ((d * 2 ^ t : Nat) : Int) := by
    unfold shl
    rw [Int.toNat_natCast, Nat.min_eq_left (by simp [IntKind.bits]; omega), show (d : Int) * 2 ^ t = ((d * 2 ^ t : Nat) : Int) by simp, IntKind.wrap_i64]
    omega
  rw [e1, (bits_nat .i64 63 (by decide) (fun n h0 h1 => by rw [IntKind.wrap_i64]; omega) a (d * 2 ^ t) (by omega) (by omega)).2]
  congr 1
  rw [Nat.or_comm, Nat.mul_comm d, ← Nat.two_pow_add_eq_or_of_lt ha d]
  omega
/-- What Encode answers. -/
def encS (l : List Int) (n : Int) : List Int × Int := if l.length > 6 then ([], 150) else if n < (longest l : Int) ∨ n > 64 then ([], 2) else (enc l n.toNat, 0)
theorem encode_ev {l : List Int} (h : AllI l) (hl : l.length ≤ 9000000000000000000) (n : Int) : Ev (fun k => word_Encode.f k l n) (encS l n) := by
  refine Ev.congr (fun k => by rw [word_Encode.f]) ?_
  unfold encS
  by_cases h6 : l.length > 6
  · rw [if_pos h6]
    exact Ev.cond (by omega) (Ev.now _)
  rw [if_neg h6]
  have hb := longest_bd h
  refine Ev.ncond (by omega) (Ev.bind (longest_ev h hl) ?_)
  have bad : Ev (fun k => word_Encode.j0 k l n true) (([] : List Int), 2) := Ev.step (fun k => by rw [word_Encode.j0]) (Ev.cond rfl (Ev.now _))
  refine Ev.ite (fun hc => ?_) (fun hc => ?_)
  · rw [if_pos (.inl hc)]; exact bad
  by_cases h64 : n > 64
  · rw [if_pos (.inr h64), decide_eq_true h64]; exact bad
  rw [if_neg (by omega), decide_eq_false h64]
  obtain ⟨m, rfl⟩ := Int.eq_ofNat_of_zero_le (show 0 ≤ n by omega)
  rw [Int.toNat_natCast]
  refine Ev.step (fun k => by rw [word_Encode.j0]) (Ev.ncond (by simp) (Ev.cond (by omega) (Ev.cond (by omega) ?_)))
  rw [Int.toNat_natCast, ← upd_none l m]
  have inner : ∀ (t : Nat), t < l.length → ∀ (d i : Nat), i + d = m → Ev (fun k => word_Encode.l0 k (upd l m (t + 1) 0) l (l.length : Int) ((t + 1 : Nat) : Int)) (enc l m, 0) →
      Ev (fun k => word_Encode.l1 k (upd l m t i) (t : Int) (rd l (t : Int)) l (l.length : Int) (t : Int) ((upd l m t i).length : Int) (i : Int)) (enc l m, 0) := by
    intro t ht d
    induction d with
    | zero =>
      intro i hi hk
      refine Ev.step (fun k => by rw [word_Encode.l1]) ?_
      rw [upd_length]
      refine Ev.ncond (by omega) ?_
      rw [w64 (by omega) (by omega)]
      obtain rfl : i = m := by omega
      rw [upd_full]
      exact hk
    | succ d ih =>
      intro i hi hk
      refine Ev.step (fun k => by rw [word_Encode.l1]) ?_
      have e1 := ih (i + 1) (by omega) hk
      rw [upd_length] at e1 ⊢
      refine Ev.cond (by omega) (Ev.cond (by omega) (Ev.cond (by omega) (Ev.cond (by omega) ?_)))
      have hv := allI_rd h ht
      rw [upd_rd l (show i < m by omega), if_neg (Nat.lt_irrefl i), digit_of hv (by omega), or_shl (lt_lt l t i) (dgt_lt _ _) (by omega), Int.toNat_natCast, w64 (x := (i : Int) + 1) (by omega) (by omega)]
      have e2 := upd_set l (t := t) (show i < m by omega)
      rw [lt] at e2
      rw [e2]
      exact e1
  have outer : ∀ (d t : Nat), t + d = l.length → Ev (fun k => word_Encode.l0 k (upd l m t 0) l (l.length : Int) (t : Int)) (enc l m, 0) := by
    intro d
    induction d with
    | zero =>
      intro t ht
      refine Ev.step (fun k => by rw [word_Encode.l0]) (Ev.ncond (by omega) (Ev.fin ?_))
      obtain rfl : t = l.length := by omega
      rw [upd_enc]
    | succ d ih =>
      intro t ht
      refine Ev.step (fun k => by rw [word_Encode.l0]) ?_
      refine Ev.cond (by omega) (Ev.cond (by omega) (Ev.cond (by omega) ?_))
      exact inner t (by omega) m 0 (by omega) (ih (t + 1) (by omega))
  exact outer l.length 0 (by omega)
theorem rencode_ev {l : List Int} (h : AllI l) (hl : l.length ≤ 9000000000000000000) (n : Int) : Ev (fun k => tabardref03_Encode.f k l n) (encS l n) := by
  refine Ev.congr (fun k => by rw [tabardref03_Encode.f]) ?_
  unfold encS
  by_cases h6 : l.length > 6
  · rw [if_pos h6]
    exact Ev.cond (by omega) (Ev.now _)
  rw [if_neg h6]
  have hb := longest_bd h
  refine Ev.ncond (by omega) (Ev.bind (rlongest_ev h hl) ?_)
  have bad : Ev (fun k => tabardref03_Encode.j0 k l n true) (([] : List Int), 2) := Ev.step (fun k => by rw [tabardref03_Encode.j0]) (Ev.cond rfl (Ev.now _))
  refine Ev.ite (fun hc => ?_) (fun hc => ?_)
  · rw [if_pos (.inl hc)]; exact bad
  by_cases h64 : n > 64
  · rw [if_pos (.inr h64), decide_eq_true h64]; exact bad
  rw [if_neg (by omega), decide_eq_false h64]
  obtain ⟨m, rfl⟩ := Int.eq_ofNat_of_zero_le (show 0 ≤ n by omega)
  rw [Int.toNat_natCast]
  refine Ev.step (fun k => by rw [tabardref03_Encode.j0]) (Ev.ncond (by simp) (Ev.cond (by omega) (Ev.cond (by omega) ?_)))
  rw [Int.toNat_natCast, ← upd_none l m]
  have inner : ∀ (t : Nat), t < l.length → ∀ (d i : Nat), i + d = m → Ev (fun k => tabardref03_Encode.l0 k l (m : Int) (upd l m (t + 1) 0) ((2 ^ (t + 1) : Nat) : Int) ((t + 1 : Nat) : Int)) (enc l m, 0) →
      Ev (fun k => tabardref03_Encode.l1 k l (m : Int) (upd l m t i) ((2 ^ t : Nat) : Int) (t : Int) (digs (rd l (t : Int)) m) (i : Int)) (enc l m, 0) := by
    intro t ht d
    have hp := pow_le6 (show t ≤ 6 by omega)
    induction d with
    | zero =>
      intro i hi hk
      refine Ev.step (fun k => by rw [tabardref03_Encode.l1]) ?_
      refine Ev.ncond (by omega) ?_
      have e1 : wrap64 (((2 ^ t : Nat) : Int) * 2) = ((2 ^ (t + 1) : Nat) : Int) := by
        rw [Nat.pow_succ]
        generalize 2 ^ t = z at hp
        rw [w64 (by omega) (by omega)]; omega
      rw [e1, w64 (by omega) (by omega)]
      obtain rfl : i = m := by omega
      rw [upd_full]
      exact hk
    | succ d ih =>
      intro i hi hk
      refine Ev.step (fun k => by rw [tabardref03_Encode.l1]) ?_
      have e1 := ih (i + 1) (by omega) hk
      refine Ev.cond (by omega) (Ev.cond (by omega) (Ev.cond (by rw [upd_length]; omega) (Ev.cond (by rw [digs_length]; omega) ?_)))
      have hx := lt_lt l t i
      have hd := dgt_lt (rd l (t : Int)) i
      have hv : wrap64 (rd (upd l m t i) (i : Int) + wrap64 (((2 ^ t : Nat) : Int) * rd (digs (rd l (t : Int)) m) (i : Int))) = (lt l (t + 1) i : Int) := by
        rw [upd_rd l (show i < m by omega), if_neg (Nat.lt_irrefl i), digs_rd _ (show i < m by omega), lt]
        generalize lt l t i = x at hx
        generalize dgt (rd l (t : Int)) i = y at hd
        generalize 2 ^ t = z at hp hx
        rcases (show y = 0 ∨ y = 1 by omega) with rfl | rfl
        · rw [show (z : Int) * ((0 : Nat) : Int) = 0 by simp, w64 (x := 0) (by omega) (by omega), w64 (by omega) (by omega)]; omega
        · rw [w64 (x := (z : Int) * ((1 : Nat) : Int)) (by omega) (by omega), w64 (by omega) (by omega)]; omega
      rw [hv, Int.toNat_natCast, w64 (x := (i : Int) + 1) (by omega) (by omega), upd_set l (t := t) (show i < m by omega)]
      exact e1
  have outer : ∀ (d t : Nat), t + d = l.length → Ev (fun k => tabardref03_Encode.l0 k l (m : Int) (upd l m t 0) ((2 ^ t : Nat) : Int) (t : Int)) (enc l m, 0) := by
    intro d
    induction d with
    | zero =>
      intro t ht
      refine Ev.step (fun k => by rw [tabardref03_Encode.l0]) (Ev.ncond (by omega) (Ev.fin ?_))
      obtain rfl : t = l.length := by omega
      rw [upd_enc]
    | succ d ih =>
      intro t ht
      refine Ev.step (fun k => by rw [tabardref03_Encode.l0]) ?_
      refine Ev.cond (by omega) (Ev.cond (by omega) ?_)
      refine Ev.bind (rdigits_ev (allI_rd h (by omega)) (by omega)) ?_
      exact inner t (by omega) m 0 (by omega) (ih (t + 1) (by omega))
  exact outer l.length 0 (by omega)
theorem shortest_ev {l : List Int} (h : AllI l) (hl : l.length ≤ 9000000000000000000) : Ev (fun k => word_Shortest.f k l) (encS l (longest l : Int)) := by
  refine Ev.congr (fun k => by rw [word_Shortest.f]) ?_
  refine Ev.bind (longest_ev h hl) (Ev.bind (encode_ev h hl _) (Ev.fin rfl))
theorem encS_length (l : List Int) (n : Int) : (encS l n).1.length ≤ 64 := by
  unfold encS enc
  split
  · simp
  · split
    · simp
    · simp; omega
theorem fixed_ev : Ev (fun k => tabardlaw03_fixed.f k) true := by
  have h : AllI [1, -3] := by
    intro v hv
    simp only [List.mem_cons, List.not_mem_nil, or_false] at hv
    unfold I64
    omega
  have e : encS [1, -3] (longest [1, -3] : Int) = ([3, 0, 2], 0) := by decide +kernel
  have hs := shortest_ev h (by simp)
  rw [e] at hs
  refine Ev.congr (fun k => by rw [tabardlaw03_fixed.f]) (Ev.bind hs (Ev.cond rfl ?_))
  have hm := same_ev (a := [3, 0, 2]) (b := [3, 0, 2]) (by simp)
  rw [decide_eq_true rfl] at hm
  refine Ev.bind hm (Ev.cond rfl ?_)
  refine Ev.ret (length_eq (v := -2) (by unfold I64; omega)) ?_
  exact Ev.cond (by decide +kernel) (Ev.now _)
theorem allI_of {l : List Int} (h : ∀ x ∈ l, (Lit.int .i64 x).wf = true) : AllI l := fun v hv => i64_of_wf (h v hv)
end Go.Proofs.Ytolacbnkebbjiaa.Pure
