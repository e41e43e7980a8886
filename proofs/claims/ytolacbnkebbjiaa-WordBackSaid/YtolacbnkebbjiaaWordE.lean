/- Trim and Compare of the layer of words and of its reference come to plain functions; and what Decode, Digits, Number and Encode have to do with each other. No condition but that numbers are 64 bits wide. -/
import Derived.Test.YtolacbnkebbjiaaWordB
import Derived.Test.YtolacbnkebbjiaaX23
import Derived.Test.YtolacbnkebbjiaaX24
import Derived.Test.YtolacbnkebbjiaaX32
import Derived.Test.YtolacbnkebbjiaaX33
import Derived.Test.YtolacbnkebbjiaaX34
namespace Go.Proofs.Ytolacbnkebbjiaa.Pure
open Go.RowKit Go.Proofs.YtolacbnkebbjiaaW.PrintWords Go.Proofs.YtolacbnkebbjiaaW.PrintLast Go.Proofs.YtolacbnkebbjiaaW.PrintMore Go.Proofs.Ytolacbnkebbjiaa.X
set_option linter.unusedVariables false

/-! ### Trim -/
def trimTo (w : List Int) : Nat → Nat
  | 0 => 0
  | m + 1 => if 1 ≤ m ∧ rd w (m : Int) = rd w ((m - 1 : Nat) : Int) then trimTo w m else m + 1
def trimS (w : List Int) : List Int := w.take (trimTo w w.length)
theorem trimTo_le (w : List Int) (m : Nat) : trimTo w m ≤ m := by
  induction m with
  | zero => simp [trimTo]
  | succ m ih => rw [trimTo]; split <;> omega
theorem trim_ev {w : List Int} (hw : w.length * 8 ≤ 140737488351232) : Ev (fun k => word_Trim.f k w) (trimS w) := by
  refine Ev.congr (fun k => by rw [word_Trim.f]) ?_
  have stop : ∀ (m : Nat), m ≤ w.length → Ev (fun _ : Nat => if 0 ≤ (m : Int) then (if (m : Int) ≤ (w.length : Int) then ((slices_Clone_int_int.f (w.take (m : Int).toNat)).bind fun t => (some t)) else (none)) else (none)) (w.take m) := by
    intro m hm
    refine Ev.cond (by omega) (Ev.cond (by omega) ?_)
    rw [Int.toNat_natCast]
    refine Ev.ret (show slices_Clone_int_int.f (w.take m) = some (w.take m) by unfold slices_Clone_int_int.f; rw [if_pos (by rw [List.length_take]; omega)]) (Ev.fin rfl)
  have key : ∀ (m : Nat), m ≤ w.length → Ev (fun k => word_Trim.l0 k w (m : Int)) (w.take (trimTo w m)) := by
    intro m
    induction m with
    | zero =>
      intro hm
      refine Ev.step (fun k => by rw [word_Trim.l0]) (Ev.ncond (by omega) ?_)
      exact stop 0 hm
    | succ m ih =>
      intro hm
      refine Ev.step (fun k => by rw [word_Trim.l0]) ?_
      by_cases h1 : 1 ≤ m
      · have e1 : wrap64 (((m + 1 : Nat) : Int) - 1) = (m : Int) := by rw [w64 (by omega) (by omega)]; omega
        have e2 : wrap64 (((m + 1 : Nat) : Int) - 2) = ((m - 1 : Nat) : Int) := by rw [w64 (by omega) (by omega)]; omega
        rw [e1, e2]
        clear e1 e2
        refine Ev.cond (by omega) (Ev.cond (by omega) (Ev.cond (by omega) (Ev.cond (by omega) (Ev.cond (by omega) ?_))))
        by_cases h2 : rd w (m : Int) = rd w ((m - 1 : Nat) : Int)
        · have ht : trimTo w (m + 1) = trimTo w m := by rw [trimTo, if_pos ⟨h1, h2⟩]
          rw [ht]
          exact Ev.cond h2 (ih (by omega))
        · have ht : trimTo w (m + 1) = m + 1 := by rw [trimTo, if_neg (fun h => h2 h.2)]
          rw [ht]
          exact Ev.ncond h2 (stop (m + 1) hm)
      · have ht : trimTo w (m + 1) = m + 1 := by rw [trimTo, if_neg (fun h => h1 h.1)]
        rw [ht]
        exact Ev.ncond (by omega) (stop (m + 1) hm)
  exact key w.length (Nat.le_refl _)
theorem rtrim_ev {w : List Int} (hw : w.length * 8 ≤ 140737488351232) : Ev (fun k => tabardref03_Trim.f k w) (trimS w) := by
  refine Ev.congr (fun k => by rw [tabardref03_Trim.f]) ?_
  have stop : ∀ (m : Nat), m ≤ w.length → Ev (fun _ : Nat => (some (([] : List Int) : List Int)).bind fun y => (if 0 ≤ (m : Int) then (if (m : Int) ≤ (w.length : Int) then (if y.length + (w.take (m : Int).toNat).length < 17592186044416 then (some (y ++ (w.take (m : Int).toNat))) else (none)) else (none)) else (none))) (w.take m) := by
    intro m hm
    refine Ev.ret rfl (Ev.cond (by omega) (Ev.cond (by omega) ?_))
    rw [Int.toNat_natCast]
    refine Ev.cond (by rw [List.length_take, List.length_nil]; omega) (Ev.fin (by simp))
  have key : ∀ (m : Nat), m ≤ w.length → Ev (fun k => tabardref03_Trim.l0 k w (m : Int)) (w.take (trimTo w m)) := by
    intro m
    induction m with
    | zero =>
      intro hm
      refine Ev.step (fun k => by rw [tabardref03_Trim.l0]) (Ev.ncond (by omega) ?_)
      exact stop 0 hm
    | succ m ih =>
      intro hm
      refine Ev.step (fun k => by rw [tabardref03_Trim.l0]) ?_
      by_cases h1 : 1 ≤ m
      · have e1 : wrap64 (((m + 1 : Nat) : Int) - 1) = (m : Int) := by rw [w64 (by omega) (by omega)]; omega
        have e2 : wrap64 (((m + 1 : Nat) : Int) - 2) = ((m - 1 : Nat) : Int) := by rw [w64 (by omega) (by omega)]; omega
        rw [e1, e2]
        clear e1 e2
        refine Ev.cond (by omega) (Ev.cond (by omega) (Ev.cond (by omega) (Ev.cond (by omega) (Ev.cond (by omega) ?_))))
        by_cases h2 : rd w (m : Int) = rd w ((m - 1 : Nat) : Int)
        · have ht : trimTo w (m + 1) = trimTo w m := by rw [trimTo, if_pos ⟨h1, h2⟩]
          rw [ht]
          exact Ev.cond h2 (ih (by omega))
        · have ht : trimTo w (m + 1) = m + 1 := by rw [trimTo, if_neg (fun h => h2 h.2)]
          rw [ht]
          exact Ev.ncond h2 (stop (m + 1) hm)
      · have ht : trimTo w (m + 1) = m + 1 := by rw [trimTo, if_neg (fun h => h1 h.1)]
        rw [ht]
        exact Ev.ncond (by omega) (stop (m + 1) hm)
  exact key w.length (Nat.le_refl _)

/-! ### Compare -/
def cmp1 (x y : Int) : Int := if x < y then -1 else if x > y then 1 else 0
def lexI : List Int → List Int → Int
  | [], [] => 0
  | [], _ :: _ => -1
  | _ :: _, [] => 1
  | x :: xs, y :: ys => if x < y then -1 else if x > y then 1 else lexI xs ys
def cmpS (a b : List Int) : Int := if a.length < b.length then -1 else if a.length > b.length then 1 else lexI a b
theorem compare1_eq (x y : Int) : cmp_Compare_int.f x y = some (cmp1 x y) := by
  unfold cmp_Compare_int.f cmp_isNaN_int.f cmp1
  simp
  split
  · rfl
  · split <;> rfl
theorem lexI_range (a b : List Int) : lexI a b = -1 ∨ lexI a b = 0 ∨ lexI a b = 1 := by
  induction a generalizing b with
  | nil => cases b <;> simp [lexI]
  | cons x xs ih =>
    cases b with
    | nil => simp [lexI]
    | cons y ys =>
      rw [lexI]
      split
      · simp
      · split
        · simp
        · exact ih ys
theorem lex_drop_end {a b : List Int} {i : Nat} (hi : a.length ≤ i) : lexI (a.drop i) (b.drop i) = if i < b.length then -1 else 0 := by
  rw [List.drop_eq_nil_of_le hi]
  by_cases h : i < b.length
  · rw [if_pos h, List.drop_eq_getElem_cons h]; rfl
  · rw [if_neg h, List.drop_eq_nil_of_le (by omega)]; rfl
theorem lex_drop_over {a b : List Int} {i : Nat} (hi : i < a.length) (hb : b.length ≤ i) : lexI (a.drop i) (b.drop i) = 1 := by
  rw [List.drop_eq_nil_of_le hb, List.drop_eq_getElem_cons hi]; rfl
theorem lex_drop_step {a b : List Int} {i : Nat} (hi : i < a.length) (hb : i < b.length) : lexI (a.drop i) (b.drop i) = if rd a (i : Int) < rd b (i : Int) then -1 else if rd a (i : Int) > rd b (i : Int) then 1 else lexI (a.drop (i + 1)) (b.drop (i + 1)) := by
  rw [List.drop_eq_getElem_cons hi, List.drop_eq_getElem_cons hb, lexI, rd_nat, rd_nat, List.getD_eq_getElem?_getD, List.getElem?_eq_getElem hi, List.getD_eq_getElem?_getD, List.getElem?_eq_getElem hb]; rfl
theorem slcompare_ev {a b : List Int} (ha : a.length ≤ 9000000000000000000) : Ev (fun k => slices_Compare_int_int.f k a b) (lexI a b) := by
  refine Ev.congr (fun k => by rw [slices_Compare_int_int.f]) ?_
  have key : ∀ (d i : Nat), i + d = a.length → i ≤ b.length → Ev (fun k => slices_Compare_int_int.l0 k a b a (a.length : Int) (i : Int)) (lexI (a.drop i) (b.drop i)) := by
    intro d
    induction d with
    | zero =>
      intro i hi hb
      refine Ev.step (fun k => by rw [slices_Compare_int_int.l0]) (Ev.ncond (by omega) ?_)
      rw [lex_drop_end (by omega)]
      by_cases h : i < b.length
      · rw [if_pos h]; exact Ev.cond (by omega) (Ev.now _)
      · rw [if_neg h]; exact Ev.ncond (by omega) (Ev.now _)
    | succ d ih =>
      intro i hi hb
      refine Ev.step (fun k => by rw [slices_Compare_int_int.l0]) (Ev.cond (by omega) (Ev.cond (by omega) (Ev.cond (by omega) ?_)))
      refine Ev.ite (fun h => ?_) (fun h => ?_)
      · rw [lex_drop_over (by omega) (by omega)]; exact Ev.now _
      · refine Ev.cond (by omega) (Ev.ret (compare1_eq _ _) ?_)
        rw [lex_drop_step (by omega) (by omega)]
        unfold cmp1
        by_cases h1 : rd a (i : Int) < rd b (i : Int)
        · rw [if_pos h1, if_pos h1]; exact Ev.ncond (by omega) (Ev.now _)
        · rw [if_neg h1, if_neg h1]
          by_cases h2 : rd a (i : Int) > rd b (i : Int)
          · rw [if_pos h2, if_pos h2]; exact Ev.ncond (by omega) (Ev.now _)
          · rw [if_neg h2, if_neg h2, w64 (by omega) (by omega)]
            exact Ev.cond rfl (ih (i + 1) (by omega) (by omega))
  have := key a.length 0 (by omega) (by omega)
  exact this
theorem or_ev (x y : Int) : Ev (fun k => cmp_Or_int.f k [x, y]) (if x = 0 then y else x) := by
  refine Ev.congr (fun k => by rw [cmp_Or_int.f]) ?_
  refine Ev.step (fun k => by rw [cmp_Or_int.l0]) (Ev.cond (by simp) (Ev.cond (by omega) (Ev.cond (by simp) ?_)))
  have r0 : rd [x, y] 0 = x := rfl
  have r1 : rd [x, y] (wrap64 (0 + 1)) = y := by rw [w64 (by omega) (by omega)]; rfl
  rw [r0]
  by_cases hx : x = 0
  · rw [if_pos hx]
    refine Ev.cond hx ?_
    refine Ev.step (fun k => by rw [cmp_Or_int.l0]) ?_
    rw [r1]
    refine Ev.cond (by rw [w64 (by omega) (by omega)]; simp) (Ev.cond (by rw [w64 (by omega) (by omega)]; omega) (Ev.cond (by rw [w64 (by omega) (by omega)]; simp) ?_))
    by_cases hy : y = 0
    · refine Ev.cond hy ?_
      refine Ev.step (fun k => by rw [cmp_Or_int.l0]) (Ev.ncond ?_ (Ev.fin hy.symm))
      rw [w64 (x := 0 + 1) (by omega) (by omega), w64 (by omega) (by omega)]; simp
    · exact Ev.ncond hy (Ev.now _)
  · rw [if_neg hx]
    exact Ev.ncond hx (Ev.now _)
theorem compare_ev {a b : List Int} (ha : a.length ≤ 9000000000000000000) : Ev (fun k => word_Compare.f k a b) (cmpS a b) := by
  refine Ev.congr (fun k => by rw [word_Compare.f]) ?_
  refine Ev.ret (compare1_eq _ _) (Ev.bind (slcompare_ev ha) (Ev.bind (or_ev _ _) (Ev.fin ?_)))
  unfold cmp1 cmpS
  by_cases h1 : a.length < b.length <;> by_cases h2 : b.length < a.length <;> simp [h1, h2]
theorem rcompare_ev {a b : List Int} (ha : a.length ≤ 9000000000000000000) : Ev (fun k => tabardref03_Compare.f k a b) (cmpS a b) := by
  refine Ev.congr (fun k => by rw [tabardref03_Compare.f]) ?_
  unfold cmpS
  by_cases h1 : a.length < b.length
  · rw [if_pos h1]; exact Ev.cond (by omega) (Ev.now _)
  rw [if_neg h1]
  refine Ev.ncond (by omega) ?_
  by_cases h2 : a.length > b.length
  · rw [if_pos h2]; exact Ev.cond (by omega) (Ev.now _)
  rw [if_neg h2]
  refine Ev.ncond (by omega) ?_
  have key : ∀ (d i : Nat), i + d = a.length → Ev (fun k => tabardref03_Compare.l0 k a b (i : Int)) (lexI (a.drop i) (b.drop i)) := by
    intro d
    induction d with
    | zero =>
      intro i hi
      refine Ev.step (fun k => by rw [tabardref03_Compare.l0]) (Ev.ncond (by omega) ?_)
      rw [lex_drop_end (by omega), if_neg (by omega)]; exact Ev.now _
    | succ d ih =>
      intro i hi
      refine Ev.step (fun k => by rw [tabardref03_Compare.l0]) (Ev.cond (by omega) (Ev.cond (by omega) (Ev.cond (by omega) ?_)))
      rw [lex_drop_step (by omega) (by omega)]
      by_cases h1 : rd a (i : Int) < rd b (i : Int)
      · rw [if_pos h1]; exact Ev.cond h1 (Ev.now _)
      · rw [if_neg h1]
        refine Ev.ncond h1 ?_
        by_cases h2 : rd a (i : Int) > rd b (i : Int)
        · rw [if_pos h2]; exact Ev.cond h2 (Ev.now _)
        · rw [if_neg h2, w64 (by omega) (by omega)]
          exact Ev.ncond h2 (ih (i + 1) (by omega))
  have := key a.length 0 (by omega)
  exact this
theorem lexI_neg {a b : List Int} (h : a.length = b.length) : lexI b a = -(lexI a b) := by
  induction a generalizing b with
  | nil => cases b with
    | nil => rfl
    | cons y ys => simp at h
  | cons x xs ih => cases b with
    | nil => simp at h
    | cons y ys =>
      rw [lexI, lexI, ih (by simpa using h)]
      by_cases h1 : x < y <;> by_cases h2 : y < x <;> simp [h1, h2]
      omega
theorem cmpS_neg (a b : List Int) : cmpS b a = -(cmpS a b) := by
  unfold cmpS
  by_cases h1 : a.length < b.length
  · by_cases h2 : b.length < a.length
    · omega
    · simp [h1, h2]
  · by_cases h2 : b.length < a.length
    · simp [h1, h2]
    · simp only [h1, h2, if_false]
      exact lexI_neg (by omega)
theorem cmpS_range (a b : List Int) : cmpS a b = -1 ∨ cmpS a b = 0 ∨ cmpS a b = 1 := by
  unfold cmpS
  split
  · simp
  · split
    · simp
    · exact lexI_range a b
end Go.Proofs.Ytolacbnkebbjiaa.Pure
