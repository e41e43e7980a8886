/- The law BitsPlaces over numbers and lists alone: Spread and Gather come to what the reference's do, and the places stay; no condition beyond the statement's own. -/
import Derived.Test.YtpekanolhgcljaaEv
import Derived.Test.YtpekanolhgcljaaX1
import Derived.Test.YtpekanolhgcljaaX10
import Derived.Test.YtpekanolhgcljaaX11
import Derived.Test.YtpekanolhgcljaaX12
import Derived.Test.YtpekanolhgcljaaX13
import Derived.Test.YtpekanolhgcljaaX2
import Derived.Test.YtpekanolhgcljaaX5
import Derived.Test.YtpekanolhgcljaaX7
import Derived.Test.YtpekanolhgcljaaX8
import Derived.Test.YtpekanolhgcljaaX9
namespace Go.Proofs.Ytpekanolhgcljaa.Pure
open Go.RowKit Go.Proofs.YtpekanolhgcljaaW.PrintWords Go.Proofs.YtpekanolhgcljaaW.PrintLast Go.Proofs.YtpekanolhgcljaaW.PrintMore Go.Proofs.Ytpekanolhgcljaa.X
set_option linter.unusedVariables false
def dn (o n : Nat) : List Int := (List.range n).map fun j => ((o / 2 ^ j % 2 : Nat) : Int)
def bn (k : Nat) : List Bool := (List.range 6).map fun j => decide (k / 2 ^ j % 2 = 1)
theorem dn_length (o n : Nat) : (dn o n).length = n := by simp [dn]
theorem bn_length (k : Nat) : (bn k).length = 6 := by simp [bn]
theorem dn_rd (o : Nat) {n i : Nat} (h : i < n) : rd (dn o n) (i : Int) = ((o / 2 ^ i % 2 : Nat) : Int) := by
  rw [rd_nat, List.getD_eq_getElem?_getD, List.getElem?_eq_getElem (by rw [dn_length]; exact h)]
  simp [dn]
theorem sp_o : ∀ o : Fin 64, ∀ p : Fin 6, ∀ d : Fin 2, o.val / 2 ^ p.val % 2 = 0 → Go.bits .or .i64 (o.val : Int) (shl .i64 (d.val : Int) (p.val : Int)) = ((o.val + d.val * 2 ^ p.val : Nat) : Int) ∧ o.val + d.val * 2 ^ p.val < 64 ∧ (dn o.val 6).set p.val (d.val : Int) = dn (o.val + d.val * 2 ^ p.val) 6 ∧ ∀ j : Fin 6, (o.val + d.val * 2 ^ p.val) / 2 ^ j.val % 2 = if j = p then d.val else o.val / 2 ^ j.val % 2 := by decide +kernel
theorem sp_k : ∀ k : Fin 64, ∀ p : Fin 6, Go.bits .and .i64 (shr .i64 (k.val : Int) (p.val : Int)) 1 = ((k.val / 2 ^ p.val % 2 : Nat) : Int) ∧ rdOf false (bn k.val) (p.val : Int) = decide (k.val / 2 ^ p.val % 2 = 1) ∧ (k.val / 2 ^ p.val % 2 = 0 → Go.bits .or .i64 (k.val : Int) (shl .i64 1 (p.val : Int)) = ((k.val + 2 ^ p.val : Nat) : Int) ∧ k.val + 2 ^ p.val < 64 ∧ (bn k.val).set p.val true = bn (k.val + 2 ^ p.val) ∧ ∀ j : Fin 6, (k.val + 2 ^ p.val) / 2 ^ j.val % 2 = if j = p then 1 else k.val / 2 ^ j.val % 2) := by decide +kernel
theorem le_o : ∀ n : Fin 7, ∀ o : Fin 64, o.val < 2 ^ n.val → tabardref02_Letter.f 10 (dn o.val n.val) = some (o.val : Int) := by decide +kernel
theorem ga_o : ∀ n : Fin 6, ∀ o : Fin 64, ∀ d : Fin 2, o.val < 2 ^ n.val → Go.bits .or .i64 (o.val : Int) (shl .i64 (d.val : Int) (n.val : Int)) = ((o.val + d.val * 2 ^ n.val : Nat) : Int) ∧ o.val + d.val * 2 ^ n.val < 2 ^ (n.val + 1) ∧ dn o.val n.val ++ [(d.val : Int)] = dn (o.val + d.val * 2 ^ n.val) (n.val + 1) := by decide +kernel
theorem di_o : ∀ m : Fin 64, ∀ i : Fin 6, bits_Digit.f (m.val : Int) (i.val : Int) = some ((m.val / 2 ^ i.val % 2 : Nat) : Int) := by decide +kernel
theorem ds_o : ∀ m : Fin 64, ∀ n : Fin 7, tabardref02_Digits.f 10 (m.val : Int) (n.val : Int) = some (dn m.val n.val) := by decide +kernel
theorem sh_o : ∀ n : Fin 7, shl .i64 1 (n.val : Int) = ((2 ^ n.val : Nat) : Int) := by decide +kernel
theorem pow6 {n : Nat} (h : n ≤ 6) : 2 ^ n ≤ 64 := by
  have := Nat.pow_le_pow_right (show 0 < 2 by omega) h
  omega
theorem below_eq (x y : Int) : tabardref02_below.f x y = some (decide (0 ≤ x ∧ x < y)) := by
  unfold tabardref02_below.f
  by_cases h : x ≥ 0
  · rw [if_pos h]; congr 1; simp [h]
  · rw [if_neg h]; congr 1; simp [h]
theorem ints_ev (a : List Int) (ha : a.length ≤ 9000000000000000000) : Ev (fun k => tabardlaw02_ints.f k a a) true := by
  refine Ev.congr (fun k => by rw [tabardlaw02_ints.f]) (Ev.cond rfl ?_)
  have key : ∀ (m i : Nat), i + m = a.length → Ev (fun k => tabardlaw02_ints.l0 k a a (a.length : Int) (i : Int)) true := by
    intro m
    induction m with
    | zero => intro i hi; exact Ev.step (fun k => by rw [tabardlaw02_ints.l0]) (Ev.ncond (by omega) (Ev.fin rfl))
    | succ m ih =>
      intro i hi
      refine Ev.step (fun k => by rw [tabardlaw02_ints.l0]) (Ev.cond (by omega) (Ev.cond (by omega) (Ev.cond (by omega) (Ev.cond (by omega) (Ev.cond rfl ?_)))))
      rw [w64 (by omega) (by omega)]
      exact ih (i + 1) (by omega)
  exact key a.length 0 (by omega)
/-- Are they tracks? -/
def PL (l : List Int) : Prop := l.length ≤ 6 ∧ ∀ i : Nat, i < l.length → 0 ≤ rd l (i : Int) ∧ rd l (i : Int) < 6
theorem not_pl {l : List Int} (h : ¬ PL l) (h6 : l.length ≤ 6) : ∃ i : Nat, i < l.length ∧ ¬ (0 ≤ rd l (i : Int) ∧ rd l (i : Int) < 6) := by
  refine Classical.byContradiction fun c => h ⟨h6, fun i hi => Classical.byContradiction fun d => c ⟨i, hi, d⟩⟩
theorem places_ok {l : List Int} (h : PL l) : Ev (fun k => bits_places.f k l) 0 := by
  refine Ev.congr (fun k => by rw [bits_places.f]) (Ev.ncond (by have := h.1; omega) ?_)
  have key : ∀ (m i : Nat), i + m = l.length → Ev (fun k => bits_places.l0 k l (l.length : Int) (i : Int)) 0 := by
    intro m
    induction m with
    | zero => intro i hi; exact Ev.step (fun k => by rw [bits_places.l0]) (Ev.ncond (by omega) (Ev.fin rfl))
    | succ m ih =>
      intro i hi
      have h1 := h.1
      have h2 := h.2 i (by omega)
      refine Ev.step (fun k => by rw [bits_places.l0]) (Ev.cond (by omega) (Ev.cond (by omega) (Ev.cond (by omega) (Ev.ncond (by omega) (Ev.ncond (by omega) ?_)))))
      rw [w64 (by omega) (by omega)]
      exact ih (i + 1) (by omega)
  exact key l.length 0 (by omega)
theorem places_no {l : List Int} (h : ¬ PL l) : Ev (fun k => bits_places.f k l) 2 := by
  refine Ev.congr (fun k => by rw [bits_places.f]) ?_
  by_cases h6 : l.length ≤ 6
  · refine Ev.ncond (by omega) ?_
    obtain ⟨q, hq, hn⟩ := not_pl h h6
    have key : ∀ (m i : Nat), i + m = q → Ev (fun k => bits_places.l0 k l (l.length : Int) (i : Int)) 2 := by
      intro m
      induction m with
      | zero =>
        intro i hi
        obtain rfl : i = q := by omega
        refine Ev.step (fun k => by rw [bits_places.l0]) (Ev.cond (by omega) (Ev.cond (by omega) (Ev.cond (by omega) (Ev.ite (fun _ => Ev.fin rfl) (fun _ => Ev.cond (by omega) (Ev.fin rfl))))))
      | succ m ih =>
        intro i hi
        refine Ev.step (fun k => by rw [bits_places.l0]) (Ev.cond (by omega) (Ev.cond (by omega) (Ev.cond (by omega) (Ev.ite (fun _ => Ev.fin rfl) (fun _ => Ev.ite (fun _ => Ev.fin rfl) (fun _ => ?_))))))
        rw [w64 (by omega) (by omega)]
        exact ih (i + 1) (by omega)
    exact key q 0 (by omega)
  · exact Ev.cond (by omega) (Ev.fin rfl)
theorem rplaces_ok {l : List Int} (h : PL l) : Ev (fun k => tabardref02_places.f k l) true := by
  refine Ev.congr (fun k => by rw [tabardref02_places.f]) (Ev.ncond (by have := h.1; omega) ?_)
  have key : ∀ (m i : Nat), i + m = l.length → Ev (fun k => tabardref02_places.l0 k l (i : Int)) true := by
    intro m
    induction m with
    | zero => intro i hi; exact Ev.step (fun k => by rw [tabardref02_places.l0]) (Ev.ncond (by omega) (Ev.fin rfl))
    | succ m ih =>
      intro i hi
      have h1 := h.1
      have h2 := h.2 i (by omega)
      refine Ev.step (fun k => by rw [tabardref02_places.l0]) (Ev.cond (by omega) (Ev.cond (by omega) (Ev.ret (below_eq _ _) ?_)))
      rw [decide_eq_true h2, w64 (by omega) (by omega)]
      exact Ev.cond rfl (ih (i + 1) (by omega))
  exact key l.length 0 (by omega)
theorem rplaces_no {l : List Int} (h : ¬ PL l) : Ev (fun k => tabardref02_places.f k l) false := by
  refine Ev.congr (fun k => by rw [tabardref02_places.f]) ?_
  by_cases h6 : l.length ≤ 6
  · refine Ev.ncond (by omega) ?_
    obtain ⟨q, hq, hn⟩ := not_pl h h6
    have key : ∀ (m i : Nat), i + m = q → Ev (fun k => tabardref02_places.l0 k l (i : Int)) false := by
      intro m
      induction m with
      | zero =>
        intro i hi
        obtain rfl : i = q := by omega
        refine Ev.step (fun k => by rw [tabardref02_places.l0]) (Ev.cond (by omega) (Ev.cond (by omega) (Ev.ret (below_eq _ _) ?_)))
        rw [decide_eq_false hn]
        exact Ev.ncond (by simp) (Ev.fin rfl)
      | succ m ih =>
        intro i hi
        refine Ev.step (fun k => by rw [tabardref02_places.l0]) (Ev.cond (by omega) (Ev.cond (by omega) (Ev.ret (below_eq _ _) (Ev.ite (fun _ => ?_) (fun _ => Ev.fin rfl)))))
        rw [w64 (by omega) (by omega)]
        exact ih (i + 1) (by omega)
    exact key q 0 (by omega)
  · exact Ev.cond (by omega) (Ev.fin rfl)
theorem letters_eq (a : Int) {n : Nat} (hn : n ≤ 6) : bits_letters.f a (n : Int) = some (decide (0 ≤ a ∧ a < ((2 ^ n : Nat) : Int))) := by
  unfold bits_letters.f
  by_cases h : a ≥ 0
  · rw [if_pos h, if_pos (by omega), sh_o ⟨n, by omega⟩]; congr 1; simp [h]
  · rw [if_neg h]; congr 1; simp [h]
theorem letters6 (a : Int) : bits_letters.f a 6 = some (decide (0 ≤ a ∧ a < 64)) := letters_eq a (n := 6) (by omega)
theorem spread_loop {l : List Int} (h : PL l) {m : Nat} (hm : m < 64) :
    ∀ (j i o k : Nat), i + j = l.length → o < 64 → k < 64 → (∀ z : Fin 6, k / 2 ^ z.val % 2 = 0 → o / 2 ^ z.val % 2 = 0) →
    ∃ r, Ev (fun n => bits_Spread.l0 n (m : Int) (o : Int) (k : Int) l (l.length : Int) (i : Int)) r ∧ Ev (fun n => tabardref02_Spread.l1 n l (dn m l.length) (dn o 6) (bn k) (i : Int)) r := by
  intro j
  have h6 := h.1
  induction j with
  | zero =>
    intro i o k hi ho hk hs
    refine ⟨((o : Int), 0), Ev.step (fun n => by rw [bits_Spread.l0]) (Ev.ncond (by omega) (Ev.fin rfl)), Ev.step (fun n => by rw [tabardref02_Spread.l1]) (Ev.ncond (by omega) ?_)⟩
    exact Ev.bind (Ev.of (tabardref02_Letter.mono _) (le_o ⟨6, by omega⟩ ⟨o, ho⟩ ho)) (Ev.fin rfl)
  | succ j ih =>
    intro i o k hi ho hk hs
    have h2 := h.2 i (by omega)
    obtain ⟨p, hp⟩ := Int.eq_ofNat_of_zero_le h2.1
    have hp6 : p < 6 := by omega
    obtain ⟨k1, k2, k3⟩ := sp_k ⟨k, hk⟩ ⟨p, hp6⟩
    simp only [] at k1 k2 k3
    by_cases c : k / 2 ^ p % 2 = 0
    · have hd : m / 2 ^ i % 2 < 2 := Nat.mod_lt _ (by omega)
      obtain ⟨o1, o2, o3, o4⟩ := sp_o ⟨o, ho⟩ ⟨p, hp6⟩ ⟨m / 2 ^ i % 2, hd⟩ (hs ⟨p, hp6⟩ c)
      obtain ⟨k4, k5, k6, k7⟩ := k3 c
      simp only [] at o1 o2 o3 o4
      obtain ⟨r, r1, r2⟩ := ih (i + 1) (o + m / 2 ^ i % 2 * 2 ^ p) (k + 2 ^ p) (by omega) o2 k5 (fun z hz => by
        rw [o4 z]
        have := k7 z
        rw [hz] at this
        by_cases e : z = ⟨p, hp6⟩
        · rw [if_pos e] at this; omega
        · rw [if_neg e] at this ⊢; exact hs z this.symm)
      refine ⟨r, Ev.step (fun n => by rw [bits_Spread.l0]) (Ev.cond (by omega) (Ev.cond (by omega) (Ev.cond (by omega) (Ev.cond (by omega) ?_)))), Ev.step (fun n => by rw [tabardref02_Spread.l1]) (Ev.cond (by omega) (Ev.cond (by omega) (Ev.cond (by omega) (Ev.cond (by rw [bn_length]; omega) ?_))))⟩
      · rw [hp, k1, c]
        refine Ev.ncond (by decide) (Ev.ret (di_o ⟨m, hm⟩ ⟨i, by omega⟩) ?_)
        rw [w64 (by omega) (by omega)]
        simp only []
        rw [o1, k4]
        exact r1
      · rw [hp, k2, c]
        refine Ev.ncond (by decide) (Ev.cond (by rw [dn_length]; omega) (Ev.cond (by rw [dn_length]; omega) ?_))
        rw [Int.toNat_natCast, dn_rd m (by omega), o3, k6, w64 (by omega) (by omega)]
        exact r2
    · have c1 : k / 2 ^ p % 2 = 1 := by omega
      refine ⟨(0, 5), Ev.step (fun n => by rw [bits_Spread.l0]) (Ev.cond (by omega) (Ev.cond (by omega) (Ev.cond (by omega) (Ev.cond (by omega) ?_)))), Ev.step (fun n => by rw [tabardref02_Spread.l1]) (Ev.cond (by omega) (Ev.cond (by omega) (Ev.cond (by omega) (Ev.cond (by rw [bn_length]; omega) ?_))))⟩
      · rw [hp, k1, c1]
        exact Ev.cond (by decide) (Ev.fin rfl)
      · rw [hp, k2, c1]
        exact Ev.cond (by decide) (Ev.fin rfl)
theorem most_ev {l : List Int} (h6 : l.length ≤ 6) {a : Int} {r : Int × Int} : ∀ (j i : Nat), i + j = l.length →
    Ev (fun k => tabardref02_Spread.l0 k a l ((2 ^ l.length : Nat) : Int) (l.length : Int)) r → Ev (fun k => tabardref02_Spread.l0 k a l ((2 ^ i : Nat) : Int) (i : Int)) r := by
  intro j
  induction j with
  | zero =>
    intro i hi he
    obtain rfl : i = l.length := by omega
    exact he
  | succ j ih =>
    intro i hi he
    have := ih (i + 1) (by omega) he
    refine Ev.step (fun k => by rw [tabardref02_Spread.l0]) (Ev.cond (by omega) ?_)
    have hq := pow6 (show i ≤ 6 by omega)
    rw [Nat.pow_succ] at this
    obtain ⟨P, hP⟩ : ∃ P, P = 2 ^ i := ⟨_, rfl⟩
    rw [← hP] at this hq ⊢
    rw [w64 (x := (i : Int) + 1) (by omega) (by omega), w64 (by omega) (by omega)]
    exact this
theorem spread_ev (a : Int) (l : List Int) : ∃ r, Ev (fun k => bits_Spread.f k a l) r ∧ Ev (fun k => tabardref02_Spread.f k a l) r := by
  have bad : Ev (fun k => bits_Spread.j0 k a l true) (0, 2) := Ev.step (fun k => by rw [bits_Spread.j0]) (Ev.cond rfl (Ev.fin rfl))
  have rbad : Ev (fun k => tabardref02_Spread.j0 k a l true) (0, 2) := Ev.step (fun k => by rw [tabardref02_Spread.j0]) (Ev.cond rfl (Ev.fin rfl))
  by_cases h : PL l
  · have h6 := h.1
    by_cases c : 0 ≤ a ∧ a < ((2 ^ l.length : Nat) : Int)
    · obtain ⟨m, rfl⟩ := Int.eq_ofNat_of_zero_le c.1
      have hp := pow6 h6
      have hm : m < 64 := by omega
      obtain ⟨r, r1, r2⟩ := spread_loop h hm l.length 0 0 0 (by omega) (by omega) (by omega) (fun z _ => by simp)
      refine ⟨r, Ev.congr (fun k => by rw [bits_Spread.f]) ?_, Ev.congr (fun k => by rw [tabardref02_Spread.f]) ?_⟩
      · refine Ev.bind (places_ok h) (Ev.cond rfl (Ev.ret (letters_eq _ h6) ?_))
        rw [decide_eq_true c]
        refine Ev.step (fun k => by rw [bits_Spread.j0]) (Ev.ncond (by decide) ?_)
        exact r1
      · refine Ev.bind (rplaces_ok h) (Ev.cond rfl ?_)
        rw [decide_eq_false (by omega)]
        refine Ev.step (fun k => by rw [tabardref02_Spread.j0]) (Ev.ncond (by decide) ?_)
        refine most_ev h6 l.length 0 (by omega) ?_
        refine Ev.step (fun k => by rw [tabardref02_Spread.l0]) (Ev.ncond (by omega) (Ev.ncond (by omega) ?_))
        refine Ev.bind (Ev.of (tabardref02_Digits.mono _ _) (ds_o ⟨m, hm⟩ ⟨l.length, by omega⟩)) (Ev.cond (by omega) (Ev.cond (by omega) ?_))
        exact r2
    · refine ⟨(0, 2), Ev.congr (fun k => by rw [bits_Spread.f]) ?_, Ev.congr (fun k => by rw [tabardref02_Spread.f]) ?_⟩
      · refine Ev.bind (places_ok h) (Ev.cond rfl (Ev.ret (letters_eq _ h6) ?_))
        rw [decide_eq_false c]
        exact bad
      · refine Ev.bind (rplaces_ok h) (Ev.cond rfl ?_)
        by_cases c0 : a < 0
        · rw [decide_eq_true c0]; exact rbad
        · rw [decide_eq_false c0]
          refine Ev.step (fun k => by rw [tabardref02_Spread.j0]) (Ev.ncond (by decide) ?_)
          refine most_ev h6 l.length 0 (by omega) ?_
          exact Ev.step (fun k => by rw [tabardref02_Spread.l0]) (Ev.ncond (by omega) (Ev.cond (by omega) (Ev.fin rfl)))
  · refine ⟨(0, 2), Ev.congr (fun k => by rw [bits_Spread.f]) ?_, Ev.congr (fun k => by rw [tabardref02_Spread.f]) ?_⟩
    · exact Ev.bind (places_no h) (Ev.ncond (by decide) bad)
    · exact Ev.bind (rplaces_no h) (Ev.ncond (by decide) rbad)
theorem gather_loop {l : List Int} (h : PL l) {m : Nat} (hm : m < 64) :
    ∀ (j i o : Nat), i + j = l.length → o < 2 ^ i →
    ∃ r, Ev (fun n => bits_Gather.l0 n (m : Int) (o : Int) l (l.length : Int) (i : Int)) r ∧ Ev (fun n => tabardref02_Gather.l0 n l (dn m 6) (dn o i) (i : Int)) r := by
  intro j
  have h6 := h.1
  induction j with
  | zero =>
    intro i o hi ho
    have hq := pow6 (show i ≤ 6 by omega)
    refine ⟨((o : Int), 0), Ev.step (fun n => by rw [bits_Gather.l0]) (Ev.ncond (by omega) (Ev.fin rfl)), Ev.step (fun n => by rw [tabardref02_Gather.l0]) (Ev.ncond (by omega) ?_)⟩
    exact Ev.bind (Ev.of (tabardref02_Letter.mono _) (le_o ⟨i, by omega⟩ ⟨o, by omega⟩ ho)) (Ev.fin rfl)
  | succ j ih =>
    intro i o hi ho
    have hq := pow6 (show i ≤ 6 by omega)
    have h2 := h.2 i (by omega)
    obtain ⟨p, hp⟩ := Int.eq_ofNat_of_zero_le h2.1
    have hp6 : p < 6 := by omega
    have hd : m / 2 ^ p % 2 < 2 := Nat.mod_lt _ (by omega)
    obtain ⟨o1, o2, o3⟩ := ga_o ⟨i, by omega⟩ ⟨o, by omega⟩ ⟨m / 2 ^ p % 2, hd⟩ ho
    simp only [] at o1 o2 o3
    obtain ⟨r, r1, r2⟩ := ih (i + 1) (o + m / 2 ^ p % 2 * 2 ^ i) (by omega) o2
    refine ⟨r, Ev.step (fun n => by rw [bits_Gather.l0]) (Ev.cond (by omega) (Ev.cond (by omega) (Ev.cond (by omega) ?_))), Ev.step (fun n => by rw [tabardref02_Gather.l0]) (Ev.cond (by omega) (Ev.cond (by omega) (Ev.cond (by omega) (Ev.cond (by rw [dn_length]; omega) (Ev.cond (by rw [dn_length]; omega) ?_)))))⟩
    · rw [hp]
      refine Ev.ret (di_o ⟨m, hm⟩ ⟨p, hp6⟩) ?_
      rw [w64 (by omega) (by omega)]
      simp only []
      rw [o1]
      exact r1
    · rw [hp, dn_rd m hp6, o3, w64 (by omega) (by omega)]
      exact r2
theorem gather_ev (a : Int) (l : List Int) : ∃ r, Ev (fun k => bits_Gather.f k a l) r ∧ Ev (fun k => tabardref02_Gather.f k a l) r := by
  have bad : Ev (fun k => bits_Gather.j0 k a l true) (0, 2) := Ev.step (fun k => by rw [bits_Gather.j0]) (Ev.cond rfl (Ev.fin rfl))
  have rbad : Ev (fun k => tabardref02_Gather.j0 k a l true) (0, 2) := Ev.step (fun k => by rw [tabardref02_Gather.j0]) (Ev.cond rfl (Ev.fin rfl))
  by_cases h : PL l
  · by_cases c : 0 ≤ a ∧ a < 64
    · obtain ⟨m, rfl⟩ := Int.eq_ofNat_of_zero_le c.1
      have hm : m < 64 := by omega
      obtain ⟨r, r1, r2⟩ := gather_loop h hm l.length 0 0 (by omega) (by omega)
      refine ⟨r, Ev.congr (fun k => by rw [bits_Gather.f]) ?_, Ev.congr (fun k => by rw [tabardref02_Gather.f]) ?_⟩
      · refine Ev.bind (places_ok h) (Ev.cond rfl (Ev.ret (letters6 _) ?_))
        rw [decide_eq_true c]
        refine Ev.step (fun k => by rw [bits_Gather.j0]) (Ev.ncond (by decide) ?_)
        exact r1
      · refine Ev.bind (rplaces_ok h) (Ev.cond rfl (Ev.ret (below_eq _ _) ?_))
        rw [decide_eq_true c]
        refine Ev.step (fun k => by rw [tabardref02_Gather.j0]) (Ev.ncond (by decide) ?_)
        exact Ev.bind (Ev.of (tabardref02_Digits.mono _ _) (ds_o ⟨m, hm⟩ ⟨6, by omega⟩)) r2
    · refine ⟨(0, 2), Ev.congr (fun k => by rw [bits_Gather.f]) ?_, Ev.congr (fun k => by rw [tabardref02_Gather.f]) ?_⟩
      · refine Ev.bind (places_ok h) (Ev.cond rfl (Ev.ret (letters6 _) ?_))
        rw [decide_eq_false c]
        exact bad
      · refine Ev.bind (rplaces_ok h) (Ev.cond rfl (Ev.ret (below_eq _ _) ?_))
        rw [decide_eq_false c]
        exact rbad
  · refine ⟨(0, 2), Ev.congr (fun k => by rw [bits_Gather.f]) ?_, Ev.congr (fun k => by rw [tabardref02_Gather.f]) ?_⟩
    · exact Ev.bind (places_no h) (Ev.ncond (by decide) bad)
    · exact Ev.bind (rplaces_no h) (Ev.ncond (by decide) rbad)
theorem BitsPlaces : tabardlaw02_BitsPlaces.Pure := by
  intro a l ha hm hs hw
  obtain ⟨r1, e1, e2⟩ := spread_ev a l
  obtain ⟨r2, e3, e4⟩ := gather_ev a l
  refine Ev.rounds (g := fun k => tabardlaw02_BitsPlaces.f k a l) ?_
  refine Ev.congr (fun k => by rw [tabardlaw02_BitsPlaces.f]) ?_
  refine Ev.ret rfl (Ev.cond (by simp; omega) (Ev.ret rfl ?_))
  rw [List.nil_append]
  refine Ev.bind e1 (Ev.bind e2 (Ev.bind e3 (Ev.bind e4 (Ev.ret (by rw [tabardlaw02_fixed.f]) (Ev.cond rfl (Ev.cond rfl (Ev.cond rfl (Ev.cond rfl (Ev.cond rfl ?_)))))))))
  exact Ev.bind (ints_ev l (by omega)) (Ev.fin rfl)
end Go.Proofs.Ytpekanolhgcljaa.Pure
