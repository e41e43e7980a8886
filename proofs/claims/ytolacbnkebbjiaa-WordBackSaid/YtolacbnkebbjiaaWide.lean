/- The wide numbers of the first reference, as this program's printed functions compute them, are the whole numbers; no condition but that the numbers are not huge. -/
import Derived.Test.YtolacbnkebbjiaaX10
import Derived.Test.YtolacbnkebbjiaaX11
import Derived.Test.YtolacbnkebbjiaaX12
import Derived.Test.YtolacbnkebbjiaaX3
import Derived.Test.YtolacbnkebbjiaaX4
import Derived.Test.YtolacbnkebbjiaaX5
import Derived.Test.YtolacbnkebbjiaaX6
import Derived.Test.YtolacbnkebbjiaaX7
import Derived.Test.YtolacbnkebbjiaaX8
import Derived.Test.YtolacbnkebbjiaaX9
namespace Go.Proofs.Ytolacbnkebbjiaa.Pure
open Go.RowKit Go.Proofs.YtolacbnkebbjiaaW.PrintWords Go.Proofs.YtolacbnkebbjiaaW.PrintLast Go.Proofs.YtolacbnkebbjiaaW.PrintMore Go.Proofs.Ytolacbnkebbjiaa.X
set_option linter.unusedVariables false

/-! ### Rounds -/
theorem Ev.cond {α : Type} {c : Prop} [Decidable c] {f g : Nat → Option α} {r : α} (h : c) (k : Ev f r) : Ev (fun n => if c then f n else g n) r :=
  Ev.congr (fun _ => if_pos h) k
theorem Ev.ncond {α : Type} {c : Prop} [Decidable c] {f g : Nat → Option α} {r : α} (h : ¬ c) (k : Ev g r) : Ev (fun n => if c then f n else g n) r :=
  Ev.congr (fun _ => if_neg h) k
theorem Ev.ite {α : Type} {c : Prop} [Decidable c] {f g : Nat → Option α} {r : α} (h : c → Ev f r) (k : ¬ c → Ev g r) : Ev (fun n => if c then f n else g n) r := by
  by_cases hc : c
  · exact Ev.cond hc (h hc)
  · exact Ev.ncond hc (k hc)
theorem Ev.det {α : Type} {g : Nat → Option α} {r q : α} (h : Ev g r) (k : Ev g q) : r = q := by
  obtain ⟨K, h⟩ := h
  obtain ⟨L, k⟩ := k
  have := (h (max K L) (Nat.le_max_left _ _)).symm.trans (k (max K L) (Nat.le_max_right _ _))
  exact Option.some.inj this
theorem Ev.fin {α : Type} {r q : α} (h : r = q) : Ev (fun _ => Option.some r) q := h ▸ Ev.now r
theorem Ev.ret {α β : Type} {g : Option α} {a : α} {f : Nat → α → Option β} {r : β} (h : g = Option.some a) (k : Ev (fun n => f n a) r) : Ev (fun n => g.bind (f n)) r := by
  subst h; exact k
theorem w64 {x : Int} (h0 : -9223372036854775808 ≤ x) (h1 : x ≤ 9223372036854775807) : wrap64 x = x := by unfold wrap64; omega
theorem u64 {x : Int} (h0 : 0 ≤ x) (h1 : x < 18446744073709551616) : IntKind.u64.wrap x = x := by
  simp [IntKind.wrap, IntKind.bits, IntKind.signed]; omega
theorem u64_mod (x : Int) : IntKind.u64.wrap x = x % 18446744073709551616 := by simp [IntKind.wrap, IntKind.bits, IntKind.signed]
theorem mask16 {x : Int} (h0 : 0 ≤ x) (h1 : x < 18446744073709551616) : Go.bits .and .u64 x 65535 = x % 65536 :=
  bits_mask .u64 64 (by decide) (fun n a b => u64 a (by omega)) 16 (by decide) x h0 (by omega)
theorem rd_nat (l : List Int) (i : Nat) : rd l (i : Int) = l.getD i 0 := by simp [rd]

/-! ### Digits of 16 bits -/
def dg (n : Nat) : List Int := if n = 0 then [] else ((n % 65536 : Nat) : Int) :: dg (n / 65536)
termination_by n
decreasing_by omega
def vl : List Int → Nat
  | [] => 0
  | d :: ds => d.toNat + 65536 * vl ds
def OkD (l : List Int) : Prop := ∀ d ∈ l, 0 ≤ d ∧ d < 65536
theorem dg_zero : dg 0 = [] := by unfold dg; simp
theorem dg_pos {n : Nat} (h : n ≠ 0) : dg n = ((n % 65536 : Nat) : Int) :: dg (n / 65536) := by rw [dg]; simp [h]
theorem vl_dg (n : Nat) : vl (dg n) = n := by
  induction n using Nat.strongRecOn with
  | _ n ih =>
    by_cases h : n = 0
    · subst h; simp [dg_zero, vl]
    · rw [dg_pos h, vl, ih (n / 65536) (by omega)]; simp; omega
theorem okd_dg (n : Nat) : OkD (dg n) := by
  induction n using Nat.strongRecOn with
  | _ n ih =>
    by_cases h : n = 0
    · subst h; intro d hd; simp [dg_zero] at hd
    · rw [dg_pos h]
      intro d hd
      rcases List.mem_cons.1 hd with rfl | hd
      · omega
      · exact ih (n / 65536) (by omega) d hd
theorem okd_tail {d : Int} {ds : List Int} (h : OkD (d :: ds)) : OkD ds := fun x hx => h x (List.mem_cons_of_mem _ hx)
theorem okd_head {d : Int} {ds : List Int} (h : OkD (d :: ds)) : 0 ≤ d ∧ d < 65536 := h d (List.mem_cons_self ..)
theorem okd_cons {d : Int} {ds : List Int} (h0 : 0 ≤ d) (h1 : d < 65536) (h : OkD ds) : OkD (d :: ds) := fun x hx => by
  rcases List.mem_cons.1 hx with rfl | hx
  · exact ⟨h0, h1⟩
  · exact h x hx
theorem okd_drop {l : List Int} (h : OkD l) (i : Nat) : OkD (l.drop i) := fun x hx => h x (List.mem_of_mem_drop hx)
theorem okd_getD {l : List Int} (h : OkD l) (i : Nat) : 0 ≤ l.getD i 0 ∧ l.getD i 0 < 65536 := by
  by_cases hi : i < l.length
  · rw [List.getD_eq_getElem?_getD, List.getElem?_eq_getElem hi]
    exact h _ (List.getElem_mem hi)
  · rw [List.getD_eq_getElem?_getD, List.getElem?_eq_none (by omega)]
    simp
theorem vl_zero {l : List Int} (h : ∀ i, l.getD i 0 = 0) : vl l = 0 := by
  induction l with
  | nil => rfl
  | cons d ds ih =>
    have h0 : d = 0 := by have := h 0; simpa using this
    have ht : vl ds = 0 := ih fun i => by have := h (i + 1); simpa using this
    rw [vl, h0, ht]; rfl
theorem vl_drop (l : List Int) (i : Nat) : vl (l.drop i) = (l.getD i 0).toNat + 65536 * vl (l.drop (i + 1)) := by
  by_cases hi : i < l.length
  · rw [List.drop_eq_getElem_cons hi, vl, List.getD_eq_getElem?_getD, List.getElem?_eq_getElem hi]
    simp
  · rw [List.drop_eq_nil_of_le (by omega), List.drop_eq_nil_of_le (by omega), List.getD_eq_getElem?_getD, List.getElem?_eq_none (by omega)]
    simp [vl]
theorem vl_drop_len {l : List Int} {i : Nat} (h : l.length ≤ i) : vl (l.drop i) = 0 := by
  rw [List.drop_eq_nil_of_le h]; rfl
theorem dg_take {l : List Int} (ok : OkD l) {m : Nat} (hm : m ≤ l.length) (hz : ∀ i, m ≤ i → l.getD i 0 = 0) (ht : m = 0 ∨ l.getD (m - 1) 0 ≠ 0) : l.take m = dg (vl l) := by
  induction l generalizing m with
  | nil => simp [vl, dg_zero]
  | cons d ds ih =>
    rcases Nat.eq_zero_or_pos m with rfl | hp
    · rw [vl_zero fun i => hz i (Nat.zero_le _), dg_zero]; rfl
    · obtain ⟨k, rfl⟩ : ∃ k, m = k + 1 := ⟨m - 1, by omega⟩
      have hd := okd_head ok
      have ht' : (d :: ds).getD k 0 ≠ 0 := by
        rcases ht with h | h
        · exact absurd h (by omega)
        · simpa using h
      have e := ih (okd_tail ok) (m := k) (by simpa using hm) (fun i hi => by have := hz (i + 1) (by omega); simpa using this) (by
        rcases Nat.eq_zero_or_pos k with h | h
        · exact .inl h
        · right
          obtain ⟨j, rfl⟩ : ∃ j, k = j + 1 := ⟨k - 1, by omega⟩
          simpa using ht')
      have hv : d.toNat + 65536 * vl ds ≠ 0 := by
        rcases Nat.eq_zero_or_pos k with rfl | h
        · have : d ≠ 0 := by simpa using ht'
          omega
        · intro hz0
          have h0 : vl ds = 0 := by omega
          rw [h0, dg_zero] at e
          have := congrArg List.length e
          rw [List.length_take, List.length_nil] at this
          rw [List.length_cons] at hm
          omega
      rw [vl, dg_pos hv, List.take_succ_cons, e]
      congr 1
      · omega
      · congr 1; omega
theorem dg_len {n k : Nat} (h : n < 65536 ^ k) : (dg n).length ≤ k := by
  induction k generalizing n with
  | zero => have : n = 0 := by simpa using h
            subst this; simp [dg_zero]
  | succ k ih =>
    by_cases h0 : n = 0
    · subst h0; simp [dg_zero]
    · rw [dg_pos h0, List.length_cons]
      have : n / 65536 < 65536 ^ k := by rw [Nat.div_lt_iff_lt_mul (by omega)]; rw [Nat.pow_succ] at h; exact h
      have := ih this
      omega
theorem dg_inj {n m : Nat} (h : dg n = dg m) : n = m := by rw [← vl_dg n, ← vl_dg m, h]
theorem dg_eq_nil {n : Nat} : dg n = [] ↔ n = 0 := by
  constructor
  · intro h; exact dg_inj (h.trans dg_zero.symm)
  · rintro rfl; exact dg_zero
theorem dg_getD0 (n : Nat) : (dg n).getD 0 0 = ((n % 65536 : Nat) : Int) := by
  by_cases h : n = 0
  · subst h; simp [dg_zero]
  · rw [dg_pos h]; simp
theorem dg_getD (n i : Nat) : (dg n).getD i 0 = ((n / 65536 ^ i % 65536 : Nat) : Int) := by
  induction i generalizing n with
  | zero => simpa using dg_getD0 n
  | succ i ih =>
    by_cases h : n = 0
    · subst h; simp [dg_zero]
    · rw [dg_pos h, List.getD_cons_succ, ih, Nat.div_div_eq_div_mul, Nat.pow_succ, Nat.mul_comm]
/-- A wide number. -/
def neg (n : Int) : Bool := decide (n < 0)
def mag (n : Int) : List Int := dg n.natAbs

/-! ### trimmed -/
theorem trimmed_ev {l : List Int} (ok : OkD l) (hl : l.length ≤ 1000000) (s : Bool) : Ev (fun k => tabardref01_Wide_trimmed.f k s l) (s && decide (0 < vl l), dg (vl l)) := by
  have key : ∀ (m : Nat), m ≤ l.length → (∀ i, m ≤ i → l.getD i 0 = 0) → Ev (fun k => tabardref01_Wide_trimmed.l0 k (m : Int) s l) (s && decide (0 < vl l), dg (vl l)) := by
    intro m
    induction m with
    | zero =>
      intro hm hz
      have hv : vl l = 0 := vl_zero fun i => hz i (Nat.zero_le _)
      refine Ev.step (fun k => by rw [tabardref01_Wide_trimmed.l0]) ?_
      rw [hv, dg_zero]
      refine Ev.ncond (by omega) ?_
      cases s
      · simp; exact Ev.now _
      · simp; exact Ev.now _
    | succ m ih =>
      intro hm hz
      refine Ev.step (fun k => by rw [tabardref01_Wide_trimmed.l0]) ?_
      have e : wrap64 (((m + 1 : Nat) : Int) - 1) = (m : Int) := by unfold wrap64; omega
      simp only [e]
      clear e
      refine Ev.cond (by omega) (Ev.cond (by omega) (Ev.cond (by omega) ?_))
      rw [rd_nat]
      refine Ev.ite (fun h => ?_) (fun h => ?_)
      · exact ih (by omega) fun i hi => by
          rcases Nat.eq_or_lt_of_le hi with rfl | hi
          · exact h
          · exact hz i hi
      · have ht := dg_take ok hm hz (.inr (by simpa using h))
        have hv : 0 < vl l := by
          rcases Nat.eq_zero_or_pos (vl l) with h0 | h0
          · rw [h0, dg_zero] at ht
            have := congrArg List.length ht
            rw [List.length_take, List.length_nil] at this
            omega
          · exact h0
        have hc : (((m + 1 : Nat) : Int)).toNat = m + 1 := by omega
        simp only [hc, ht]
        cases s
        · refine Ev.ncond (by simp) (Ev.cond (by omega) (Ev.cond (by omega) ?_))
          exact Ev.fin (by simp)
        · refine Ev.cond rfl (Ev.cond (by omega) (Ev.cond (by omega) ?_))
          exact Ev.fin (by simp [hv])
  exact key l.length (Nat.le_refl _) fun i hi => by rw [List.getD_eq_getElem?_getD, List.getElem?_eq_none hi]; rfl
theorem digit_ev (s : Bool) (l : List Int) (i : Nat) : tabardref01_Wide_digit.f s l (i : Int) = some (l.getD i 0) := by
  unfold tabardref01_Wide_digit.f
  by_cases h : i < l.length
  · rw [if_pos (by omega), if_pos (by omega), rd_nat]
  · rw [if_neg (by omega), List.getD_eq_getElem?_getD, List.getElem?_eq_none (by omega)]; rfl

/-! ### plus -/
theorem getD_none {l : List Int} {i : Nat} (h : l.length ≤ i) : l.getD i 0 = 0 := by rw [List.getD_eq_getElem?_getD, List.getElem?_eq_none h]; rfl
theorem plus_loop {a b : List Int} (oka : OkD a) (okb : OkD b) (ha : a.length ≤ 1000000) (hb : b.length ≤ 1000000) (s t : Bool) :
    ∀ (d : Nat) (out : List Int) (c i : Nat), out.length = i → c ≤ 1 → i + d = max a.length b.length + 1 → (d = 0 → c = 0) →
      ∃ S, OkD S ∧ vl S = vl (a.drop i) + vl (b.drop i) + c ∧ S.length ≤ d ∧ Ev (fun k => tabardref01_plus.l0 k out (c : Int) (i : Int) s a t b) (out ++ S) := by
  have stop : ∀ (out : List Int) (i : Nat), max a.length b.length ≤ i →
      ∃ S, OkD S ∧ vl S = vl (a.drop i) + vl (b.drop i) + 0 ∧ S.length ≤ 0 ∧ Ev (fun k => tabardref01_plus.l0 k out ((0 : Nat) : Int) (i : Int) s a t b) (out ++ S) := by
    intro out i hi
    refine ⟨[], by intro x hx; simp at hx, ?_, Nat.le_refl _, ?_⟩
    · rw [vl_drop_len (by omega), vl_drop_len (by omega)]; rfl
    · refine Ev.step (fun k => by rw [tabardref01_plus.l0]) ?_
      refine Ev.ncond (by unfold mx; split <;> omega) ?_
      refine Ev.step (fun k => by rw [tabardref01_plus.j1]) ?_
      refine Ev.ncond (by simp) ?_
      exact Ev.fin (by simp)
  intro d
  induction d with
  | zero =>
    intro out c i ho hc hi hd
    obtain rfl := hd rfl
    exact stop out i (by omega)
  | succ d ih =>
    intro out c i ho hc hi _
    by_cases hst : max a.length b.length ≤ i ∧ c = 0
    · obtain ⟨h1, rfl⟩ := hst
      obtain ⟨S, h2, h3, h4, h5⟩ := stop out i h1
      exact ⟨S, h2, h3, by omega, h5⟩
    · have ga := okd_getD oka i
      have gb := okd_getD okb i
      obtain ⟨sN, hsN⟩ : ∃ sN : Nat, sN = (a.getD i 0).toNat + (b.getD i 0).toNat + c := ⟨_, rfl⟩
      have es : a.getD i 0 + b.getD i 0 + (c : Int) = (sN : Int) := by omega
      obtain ⟨S, okS, vS, lS, eS⟩ := ih (out ++ [((sN % 65536 : Nat) : Int)]) (sN / 65536) (i + 1) (by simp [ho]) (by omega) (by omega) (by
        intro hd0
        have h3 : a.getD i 0 = 0 := getD_none (by omega)
        have h4 : b.getD i 0 = 0 := getD_none (by omega)
        omega)
      refine ⟨((sN % 65536 : Nat) : Int) :: S, okd_cons (by omega) (by omega) okS, ?_, by simp; omega, ?_⟩
      · rw [vl, vS, vl_drop a i, vl_drop b i]; omega
      · have hlen : out.length < 17592186044416 := by omega
        have hmx : ¬ ((i : Int) < mx (a.length : Int) (b.length : Int)) → decide ((c : Int) > 0) = true := by
          intro h
          have : ¬ (i < max a.length b.length) := by intro h2; exact h (by unfold mx; split <;> omega)
          simp; omega
        have e1 : IntKind.u64.wrap (a.getD i 0 + b.getD i 0) = a.getD i 0 + b.getD i 0 := u64 (by omega) (by omega)
        have e2 : IntKind.u64.wrap (a.getD i 0 + b.getD i 0 + (c : Int)) = (sN : Int) := by clear e1; rw [es]; exact u64 (by omega) (by omega)
        have e3 : Go.bits .and .u64 (sN : Int) 65535 = ((sN % 65536 : Nat) : Int) := by clear e1 e2; rw [mask16 (by omega) (by omega)]; omega
        have e4 : (sN : Int) / 65536 = ((sN / 65536 : Nat) : Int) := by clear e1 e2 e3; omega
        have e5 : wrap64 ((i : Int) + 1) = ((i + 1 : Nat) : Int) := by clear e1 e2 e3 e4; rw [w64 (by omega) (by omega)]; omega
        have body : Ev (fun k => tabardref01_plus.j1 k out (c : Int) (i : Int) true s a t b) (out ++ ((sN % 65536 : Nat) : Int) :: S) := by
          refine Ev.step (fun k => by rw [tabardref01_plus.j1]) ?_
          refine Ev.cond rfl ?_
          simp only [digit_ev, Option.bind_some, e1, e2, e3, e4, e5]
          refine Ev.cond hlen ?_
          have : out ++ ((sN % 65536 : Nat) : Int) :: S = out ++ [((sN % 65536 : Nat) : Int)] ++ S := by simp
          rw [this]
          exact eS
        refine Ev.step (fun k => by rw [tabardref01_plus.l0]) ?_
        refine Ev.ite (fun _ => body) (fun h => ?_)
        rw [hmx h]
        exact body
theorem plus_ev {a b : List Int} (oka : OkD a) (okb : OkD b) (ha : a.length ≤ 1000000) (hb : b.length ≤ 1000000) (s t : Bool) :
    ∃ S, OkD S ∧ vl S = vl a + vl b ∧ S.length ≤ max a.length b.length + 1 ∧ Ev (fun k => tabardref01_plus.f k s a t b) S := by
  obtain ⟨S, h1, h2, h3, h4⟩ := plus_loop oka okb ha hb s t (max a.length b.length + 1) [] 0 0 rfl (by omega) (by omega) (by omega)
  refine ⟨S, h1, by simpa using h2, h3, ?_⟩
  simpa [tabardref01_plus.f] using h4

/-! ### minus -/
theorem minus_loop {a b : List Int} (oka : OkD a) (okb : OkD b) (ha : a.length ≤ 1000000) (s t : Bool) :
    ∀ (d : Nat) (out : List Int) (c i : Nat), out.length = i → c ≤ 1 → i + d = a.length → vl (b.drop i) + c ≤ vl (a.drop i) →
      ∃ S, OkD S ∧ vl S + vl (b.drop i) + c = vl (a.drop i) ∧ S.length = d ∧ Ev (fun k => tabardref01_minus.l0 k out (c : Int) (i : Int) s a t b) (out ++ S) := by
  intro d
  induction d with
  | zero =>
    intro out c i ho hc hi hle
    have h0 : vl (a.drop i) = 0 := vl_drop_len (by omega)
    refine ⟨[], by intro x hx; simp at hx, by simp [vl]; omega, rfl, ?_⟩
    refine Ev.step (fun k => by rw [tabardref01_minus.l0]) ?_
    refine Ev.ncond (by omega) ?_
    exact Ev.fin (by simp)
  | succ d ih =>
    intro out c i ho hc hi hle
    have ga := okd_getD oka i
    have gb := okd_getD okb i
    obtain ⟨sN, hsN⟩ : ∃ sN : Nat, sN = (a.getD i 0).toNat + 65536 - (b.getD i 0).toNat - c := ⟨_, rfl⟩
    rw [vl_drop a i, vl_drop b i] at hle
    obtain ⟨S, okS, vS, lS, eS⟩ := ih (out ++ [((sN % 65536 : Nat) : Int)]) (1 - sN / 65536) (i + 1) (by simp [ho]) (by omega) (by omega) (by omega)
    refine ⟨((sN % 65536 : Nat) : Int) :: S, okd_cons (by omega) (by omega) okS, ?_, by simp [lS], ?_⟩
    · rw [vl, vl_drop a i, vl_drop b i]; simp only [Int.toNat_natCast]; omega
    · have hlen : out.length < 17592186044416 := by omega
      have hlt : (i : Int) < (a.length : Int) := by omega
      have e1 : IntKind.u64.wrap (a.getD i 0 + 65536) = a.getD i 0 + 65536 := u64 (by omega) (by omega)
      have e2 : IntKind.u64.wrap (a.getD i 0 + 65536 - b.getD i 0) = a.getD i 0 + 65536 - b.getD i 0 := by clear e1; exact u64 (by omega) (by omega)
      have e3 : IntKind.u64.wrap (a.getD i 0 + 65536 - b.getD i 0 - (c : Int)) = (sN : Int) := by clear e1 e2; rw [u64 (by omega) (by omega)]; omega
      have e4 : Go.bits .and .u64 (sN : Int) 65535 = ((sN % 65536 : Nat) : Int) := by clear e1 e2 e3; rw [mask16 (by omega) (by omega)]; omega
      have e5 : IntKind.u64.wrap (1 - (sN : Int) / 65536) = ((1 - sN / 65536 : Nat) : Int) := by clear e1 e2 e3 e4; rw [u64 (by omega) (by omega)]; omega
      have e6 : wrap64 ((i : Int) + 1) = ((i + 1 : Nat) : Int) := by clear e1 e2 e3 e4 e5; rw [w64 (by omega) (by omega)]; omega
      refine Ev.step (fun k => by rw [tabardref01_minus.l0]) ?_
      refine Ev.cond hlt ?_
      simp only [digit_ev, Option.bind_some, e1, e2, e3, e4, e5, e6]
      refine Ev.cond hlen ?_
      have : out ++ ((sN % 65536 : Nat) : Int) :: S = out ++ [((sN % 65536 : Nat) : Int)] ++ S := by simp
      rw [this]
      exact eS
theorem minus_ev {a b : List Int} (oka : OkD a) (okb : OkD b) (ha : a.length ≤ 1000000) (s t : Bool) (hle : vl b ≤ vl a) :
    ∃ S, OkD S ∧ vl S + vl b = vl a ∧ S.length = a.length ∧ Ev (fun k => tabardref01_minus.f k s a t b) S := by
  obtain ⟨S, h1, h2, h3, h4⟩ := minus_loop oka okb ha s t a.length [] 0 0 rfl (by omega) (by omega) (by simpa using hle)
  refine ⟨S, h1, by simpa using h2, h3, ?_⟩
  simpa [tabardref01_minus.f] using h4

/-! ### Size -/
theorem vl_split (l : List Int) (m : Nat) : vl l = vl (l.take m) + 65536 ^ m * vl (l.drop m) := by
  induction m generalizing l with
  | zero => simp [vl]
  | succ m ih =>
    cases l with
    | nil => simp [vl]
    | cons d ds =>
      rw [List.take_succ_cons, List.drop_succ_cons, vl, vl, ih ds, Nat.pow_succ, Nat.mul_add, ← Nat.mul_assoc, Nat.mul_comm (65536 ^ m) 65536]
      omega
theorem vl_lt {l : List Int} (ok : OkD l) : vl l < 65536 ^ l.length := by
  induction l with
  | nil => simp [vl]
  | cons d ds ih =>
    have := ih (okd_tail ok)
    have h := okd_head ok
    rw [vl, List.length_cons, Nat.pow_succ]
    omega
theorem okd_take {l : List Int} (h : OkD l) (i : Nat) : OkD (l.take i) := fun x hx => h x (List.mem_of_mem_take hx)
theorem vl_take_lt {l : List Int} (ok : OkD l) (m : Nat) : vl (l.take m) < 65536 ^ m := by
  refine Nat.lt_of_lt_of_le (vl_lt (okd_take ok m)) (Nat.pow_le_pow_right (by omega) ?_)
  rw [List.length_take]; omega
theorem lt_of_digit {a b : List Int} (oka : OkD a) (okb : OkD b) {i : Nat} (h : a.getD i 0 < b.getD i 0) (e : vl (a.drop (i + 1)) = vl (b.drop (i + 1))) : vl a < vl b := by
  have ga := okd_getD oka i
  have gb := okd_getD okb i
  have h1 : vl (a.drop i) + 1 ≤ vl (b.drop i) := by rw [vl_drop a i, vl_drop b i]; omega
  have h2 := vl_take_lt oka i
  rw [vl_split a i, vl_split b i]
  have h3 : 65536 ^ i * (vl (a.drop i) + 1) ≤ 65536 ^ i * vl (b.drop i) := Nat.mul_le_mul_left _ h1
  rw [Nat.mul_add] at h3
  omega
def cmpN (a b : Nat) : Int := if a < b then -1 else if b < a then 1 else 0
theorem size_ev {a b : List Int} (oka : OkD a) (okb : OkD b) (ha : a.length ≤ 1000000) (hb : b.length ≤ 1000000) (s t : Bool) :
    Ev (fun k => tabardref01_Size.f k s a t b) (cmpN (vl a) (vl b)) := by
  have key : ∀ (i : Nat), i ≤ 1000000 → vl (a.drop i) = vl (b.drop i) → Ev (fun k => tabardref01_Size.l0 k ((i : Int) - 1) s a t b) (cmpN (vl a) (vl b)) := by
    intro i
    induction i with
    | zero =>
      intro hi he
      refine Ev.step (fun k => by rw [tabardref01_Size.l0]) ?_
      refine Ev.ncond (by omega) ?_
      have : vl a = vl b := by simpa using he
      exact Ev.fin (by unfold cmpN; rw [if_neg (by omega), if_neg (by omega)])
    | succ i ih =>
      intro hi he
      refine Ev.step (fun k => by rw [tabardref01_Size.l0]) ?_
      rw [show (((i + 1 : Nat) : Int) - 1) = (i : Int) by omega]
      refine Ev.cond (by omega) ?_
      simp only [digit_ev, Option.bind_some]
      refine Ev.ite (fun h => ?_) (fun h => Ev.ite (fun h2 => ?_) (fun h2 => ?_))
      · have := lt_of_digit oka okb h he
        exact Ev.fin (by unfold cmpN; rw [if_pos this])
      · have := lt_of_digit okb oka h2 he.symm
        exact Ev.fin (by unfold cmpN; rw [if_neg (by omega), if_pos this])
      · have hw : wrap64 ((i : Int) - 1) = (i : Int) - 1 := w64 (by omega) (by omega)
        rw [hw]
        refine ih (by omega) ?_
        rw [vl_drop a i, vl_drop b i, he, show a.getD i 0 = b.getD i 0 by omega]
  have e : wrap64 (mx (a.length : Int) (b.length : Int) - 1) = ((max a.length b.length : Nat) : Int) - 1 := by
    rw [w64 (by unfold mx; split <;> omega) (by unfold mx; split <;> omega)]
    unfold mx; split <;> omega
  refine Ev.congr (fun k => by rw [tabardref01_Size.f, e]) (key (max a.length b.length) (by omega) ?_)
  rw [vl_drop_len (by omega), vl_drop_len (by omega)]

/-! ### Wide numbers stand for whole numbers -/
def big : Nat := 340282366920938463463374607431768211456
theorem mag_ok (n : Int) : OkD (mag n) := okd_dg _
theorem mag_len' {n : Int} (h : n.natAbs < big) : (mag n).length ≤ 8 := dg_len (k := 8) h
theorem mag_len {n : Int} (h : n.natAbs < big) : (mag n).length ≤ 1000000 := Nat.le_trans (mag_len' h) (by omega)
theorem big_lt {n : Nat} (h : n < 340282366920938463463374607431768211456) : n < big := h
theorem big_int {n : Int} (h0 : -18446744073709551616 ≤ n) (h1 : n ≤ 18446744073709551616) : n.natAbs < big := big_lt (by omega)
theorem vl_mag (n : Int) : vl (mag n) = n.natAbs := vl_dg _
theorem minusW_ev {n : Int} (h : n.natAbs < big) : Ev (fun k => tabardref01_Minus.f k (neg n) (mag n)) (neg (-n), mag (-n)) := by
  have e : Ev (fun k => tabardref01_Wide_trimmed.f k (!(neg n)) (mag n)) (neg (-n), mag (-n)) := by
    have := trimmed_ev (mag_ok n) (mag_len h) (!(neg n))
    rw [vl_mag] at this
    have e1 : (!(neg n) && decide (0 < n.natAbs)) = neg (-n) := by
      unfold neg
      by_cases h1 : n < 0 <;> by_cases h2 : 0 < n.natAbs <;> simp [h1, h2] <;> omega
    have e2 : mag (-n) = dg n.natAbs := by unfold mag; rw [Int.natAbs_neg]
    rw [e2, ← e1]
    exact this
  refine Ev.congr (fun k => by rw [tabardref01_Minus.f]) (Ev.bind e ?_)
  exact Ev.fin rfl
theorem plusW_ev {n m : Int} (h : n.natAbs < big) (h' : m.natAbs < big) : Ev (fun k => tabardref01_Plus.f k (neg n) (mag n) (neg m) (mag m)) (neg (n + m), mag (n + m)) := by
  have ln := mag_len h
  have lm := mag_len h'
  refine Ev.congr (fun k => by rw [tabardref01_Plus.f]) ?_
  refine Ev.ite (fun hs => ?_) (fun hs => ?_)
  · have hs' : neg n = neg m := by simpa using hs
    obtain ⟨S, okS, vS, lS, eS⟩ := plus_ev (mag_ok n) (mag_ok m) ln lm (neg n) (neg m)
    refine Ev.bind eS ?_
    have lS2 : S.length ≤ 1000000 := by
      have := mag_len' h; have := mag_len' h'
      omega
    have ht := trimmed_ev okS lS2 (neg n)
    rw [vS, vl_mag, vl_mag] at ht
    have e1 : (neg n && decide (0 < n.natAbs + m.natAbs)) = neg (n + m) := by
      unfold neg at hs' ⊢
      by_cases h1 : n < 0 <;> by_cases h2 : m < 0 <;> simp [h1, h2] at hs' ⊢ <;> omega
    have e2 : n.natAbs + m.natAbs = (n + m).natAbs := by
      unfold neg at hs'
      by_cases h1 : n < 0 <;> by_cases h2 : m < 0 <;> simp [h1, h2] at hs' <;> omega
    rw [e1, e2] at ht
    exact Ev.bind ht (Ev.fin rfl)
  · have hs' : ¬ neg n = neg m := by simpa using hs
    have hs2 : (n < 0 ∧ ¬ m < 0) ∨ (¬ n < 0 ∧ m < 0) := by
      unfold neg at hs'
      by_cases h1 : n < 0 <;> by_cases h2 : m < 0 <;> simp [h1, h2] at hs' ⊢
    refine Ev.bind (size_ev (mag_ok n) (mag_ok m) ln lm (neg n) (neg m)) ?_
    rw [vl_mag, vl_mag]
    refine Ev.ite (fun hc => ?_) (fun hc => ?_)
    · have hle : m.natAbs ≤ n.natAbs := by
        unfold cmpN at hc
        by_cases h1 : n.natAbs < m.natAbs
        · rw [if_pos h1] at hc; omega
        · omega
      obtain ⟨S, okS, vS, lS, eS⟩ := minus_ev (mag_ok n) (mag_ok m) ln (neg n) (neg m) (by rw [vl_mag, vl_mag]; exact hle)
      refine Ev.bind eS ?_
      have ht := trimmed_ev okS (by omega) (neg n)
      rw [vl_mag, vl_mag] at vS
      have vS' : vl S = (n + m).natAbs := by rcases hs2 with ⟨h1, h2⟩ | ⟨h1, h2⟩ <;> omega
      have e1 : (neg n && decide (0 < (n + m).natAbs)) = neg (n + m) := by
        unfold neg
        rcases hs2 with ⟨h1, h2⟩ | ⟨h1, h2⟩
        · rw [decide_eq_true h1, Bool.true_and]; exact decide_eq_decide.2 (by omega)
        · rw [decide_eq_false h1, Bool.false_and]; exact (decide_eq_false (by omega)).symm
      rw [vS', e1] at ht
      exact Ev.bind ht (Ev.fin rfl)
    · have hle : n.natAbs < m.natAbs := by
        unfold cmpN at hc
        by_cases h1 : n.natAbs < m.natAbs
        · exact h1
        · rw [if_neg h1] at hc
          split at hc <;> omega
      obtain ⟨S, okS, vS, lS, eS⟩ := minus_ev (mag_ok m) (mag_ok n) lm (neg m) (neg n) (by rw [vl_mag, vl_mag]; omega)
      refine Ev.bind eS ?_
      have ht := trimmed_ev okS (by omega) (neg m)
      rw [vl_mag, vl_mag] at vS
      have vS' : vl S = (n + m).natAbs := by rcases hs2 with ⟨h1, h2⟩ | ⟨h1, h2⟩ <;> omega
      have e1 : (neg m && decide (0 < (n + m).natAbs)) = neg (n + m) := by
        unfold neg
        rcases hs2 with ⟨h1, h2⟩ | ⟨h1, h2⟩
        · rw [decide_eq_false h2, Bool.false_and]; exact (decide_eq_false (by omega)).symm
        · rw [decide_eq_true h2, Bool.true_and]; exact decide_eq_decide.2 (by omega)
      rw [vS', e1] at ht
      exact Ev.bind ht (Ev.fin rfl)
theorem lessW_ev {n m : Int} (h : n.natAbs < big) (h' : m.natAbs < big) : Ev (fun k => tabardref01_Less.f k (neg n) (mag n) (neg m) (mag m)) (decide (n < m)) := by
  refine Ev.congr (fun k => by rw [tabardref01_Less.f]) (Ev.bind (minusW_ev h') ?_)
  refine Ev.bind (plusW_ev (n := n) (m := -m) h (by rw [Int.natAbs_neg]; exact h')) ?_
  refine Ev.fin ?_
  unfold neg
  by_cases hc : n < m <;> simp [hc] <;> omega

/-! ### Of -/
theorem dg4 {n : Nat} (h : n < 18446744073709551616) (s : Bool) :
    ∃ l : List Int, l = [((n % 65536 : Nat) : Int), ((n / 65536 % 65536 : Nat) : Int), ((n / 4294967296 % 65536 : Nat) : Int), ((n / 281474976710656 : Nat) : Int)] ∧ OkD l ∧ vl l = n := by
  refine ⟨_, rfl, ?_, ?_⟩
  · intro x hx
    simp only [List.mem_cons, List.not_mem_nil, or_false] at hx
    omega
  · simp only [vl, Int.toNat_natCast]; omega
theorem ofW_ev {n : Int} (h0 : -9223372036854775808 ≤ n) (h1 : n ≤ 9223372036854775807) : Ev (fun k => tabardref01_Of.f k n) (neg n, mag n) := by
  have key : ∀ (s : Bool), s = decide (n < 0) → ∀ (x : Int), x = (n.natAbs : Int) → Ev (fun k => (tabardref01_Wide_trimmed.f k s (([Go.bits .and .u64 x 65535, Go.bits .and .u64 (x / 65536) 65535, Go.bits .and .u64 (x / 4294967296) 65535, x / 281474976710656] : List Int))).bind fun b => some (b.1, b.2)) (neg n, mag n) := by
    rintro s hs _ rfl
    have hb : n.natAbs < 18446744073709551616 := by omega
    obtain ⟨l, hl, okl, vll⟩ := dg4 hb true
    have e : ([Go.bits .and .u64 (n.natAbs : Int) 65535, Go.bits .and .u64 ((n.natAbs : Int) / 65536) 65535, Go.bits .and .u64 ((n.natAbs : Int) / 4294967296) 65535, (n.natAbs : Int) / 281474976710656] : List Int) = l := by
      rw [hl, mask16 (by omega) (by omega), mask16 (by omega) (by omega), mask16 (by omega) (by omega)]
      congr 1
    rw [e]
    have ht := trimmed_ev okl (by rw [hl]; simp) s
    rw [vll] at ht
    refine Ev.bind ht (Ev.fin ?_)
    unfold neg mag
    rw [hs]
    congr 1
    by_cases hn : n < 0 <;> simp [hn] <;> omega
  refine Ev.congr (fun k => by rw [tabardref01_Of.f]) ?_
  refine Ev.ite (fun h => ?_) (fun h => ?_)
  · refine key _ (by simp [h]) _ ?_
    rw [u64_mod n, u64_mod]; omega
  · refine key _ (by simp [h]) _ ?_
    rw [u64_mod n]; omega

/-! ### Fits -/
theorem vl_drop_le (l : List Int) (i : Nat) : vl (l.drop i) ≤ vl l := by
  induction i with
  | zero => simp
  | succ i ih => have := vl_drop l i; omega
theorem u64_or {x d : Int} (h0 : 0 ≤ x) (h1 : x * 65536 + d < 18446744073709551616) (d0 : 0 ≤ d) (d1 : d < 65536) : Go.bits .or .u64 (IntKind.u64.wrap (x * 65536)) d = x * 65536 + d := by
  rw [u64 (by omega) (by omega)]
  exact bits_join .u64 64 (by decide) (fun n a b => u64 a (by omega)) 16 (x * 65536) d (by omega) (by omega) (by omega) d0 (by omega) (by omega)
theorem fits_loop {l : List Int} (ok : OkD l) (hv : vl l ≤ 9223372036854775808) (s : Bool) (hs : s = false → vl l ≤ 9223372036854775807) :
    ∀ i : Nat, i ≤ l.length → i ≤ 1000000 → Ev (fun k => tabardref01_Fits.l0 k ((vl (l.drop i) : Nat) : Int) ((i : Int) - 1) s l) (if s = true then -(vl l : Int) else (vl l : Int), true) := by
  intro i
  induction i with
  | zero =>
    intro _ _
    refine Ev.step (fun k => by rw [tabardref01_Fits.l0]) ?_
    refine Ev.ncond (by omega) ?_
    rw [List.drop_zero]
    cases s with
    | true =>
      refine Ev.cond rfl (Ev.fin ?_)
      rw [u64_mod]; unfold wrap64
      simp only [if_true, Prod.mk.injEq, and_true]
      omega
    | false =>
      have := hs rfl
      refine Ev.ncond (by simp) (Ev.fin ?_)
      rw [w64 (by omega) (by omega)]
      simp
  | succ i ih =>
    intro hi hm
    have g := okd_getD ok i
    have hd := vl_drop l i
    have hl := vl_drop_le l i
    refine Ev.step (fun k => by rw [tabardref01_Fits.l0]) ?_
    rw [show (((i + 1 : Nat) : Int) - 1) = (i : Int) by omega, rd_nat]
    refine Ev.cond (by omega) (Ev.cond (by omega) (Ev.cond (by omega) ?_))
    rw [u64_or (by omega) (by omega) g.1 g.2, w64 (by omega) (by omega), show ((vl (l.drop (i + 1)) : Nat) : Int) * 65536 + l.getD i 0 = ((vl (l.drop i) : Nat) : Int) by omega]
    exact ih (by omega) (by omega)
theorem fitsW_ev {n : Int} (h : n.natAbs < big) : Ev (fun k => tabardref01_Fits.f k (neg n) (mag n)) (if -9223372036854775808 ≤ n ∧ n ≤ 9223372036854775807 then (n, true) else (0, false)) := by
  refine Ev.congr (fun k => by rw [tabardref01_Fits.f]) ?_
  refine Ev.bind (ofW_ev (n := -9223372036854775808) (by omega) (by omega)) ?_
  refine Ev.bind (lessW_ev h (big_int (by omega) (by omega))) ?_
  have out : ¬ (-9223372036854775808 ≤ n ∧ n ≤ 9223372036854775807) → Ev (fun k => tabardref01_Fits.j0 k true (neg n) (mag n)) (if -9223372036854775808 ≤ n ∧ n ≤ 9223372036854775807 then (n, true) else (0, false)) := by
    intro ho
    rw [if_neg ho]
    exact Ev.step (fun k => by rw [tabardref01_Fits.j0]) (Ev.cond rfl (Ev.now _))
  refine Ev.ite (fun hc => out (by have := of_decide_eq_true hc; omega)) (fun hc => ?_)
  refine Ev.bind (ofW_ev (n := 9223372036854775807) (by omega) (by omega)) ?_
  refine Ev.bind (lessW_ev (n := 9223372036854775807) (m := n) (big_int (by omega) (by omega)) h) ?_
  by_cases hc2 : 9223372036854775807 < n
  · rw [show decide (9223372036854775807 < n) = true by simpa using hc2]
    exact out (by omega)
  · rw [show decide (9223372036854775807 < n) = false by simpa using hc2]
    have hc' : ¬ n < -9223372036854775808 := by simpa using hc
    rw [if_pos ⟨by omega, by omega⟩]
    refine Ev.step (fun k => by rw [tabardref01_Fits.j0]) (Ev.ncond (by simp) ?_)
    have hl := mag_len' h
    have := fits_loop (mag_ok n) (by rw [vl_mag]; omega) (neg n) (fun hs => by rw [vl_mag]; unfold neg at hs; simp at hs; omega) (mag n).length (Nat.le_refl _) (by omega)
    rw [vl_drop_len (Nat.le_refl _)] at this
    rw [w64 (by omega) (by omega)]
    refine (?_ : _ = (n, true)) ▸ this
    unfold neg
    rw [vl_mag]
    by_cases hn : n < 0 <;> simp [hn] <;> omega

/-! ### told, Floor -/
def toldI (n : Int) : Int × Int := if -9223372036854775808 ≤ n ∧ n ≤ 9223372036854775807 then (n, 0) else (0, 10)
theorem toldW_ev {n : Int} (h : n.natAbs < big) : Ev (fun k => tabardref01_told.f k (neg n) (mag n)) (toldI n) := by
  refine Ev.congr (fun k => by rw [tabardref01_told.f]) (Ev.bind (fitsW_ev h) ?_)
  unfold toldI
  split
  · exact Ev.cond rfl (Ev.now _)
  · exact Ev.ncond (by simp) (Ev.now _)
theorem bit_of (n i : Nat) : n / 65536 ^ (i / 16) % 65536 / 2 ^ (i % 16) % 2 = n / 2 ^ i % 2 := by
  have h1 : (65536 : Nat) ^ (i / 16) = 2 ^ (16 * (i / 16)) := by rw [Nat.pow_mul]
  have e : n / 2 ^ i % 2 = n / 2 ^ (16 * (i / 16)) / 2 ^ (i % 16) % 2 := by
    rw [Nat.div_div_eq_div_mul, ← Nat.pow_add]
    congr 3; omega
  rw [e, h1]
  generalize n / 2 ^ (16 * (i / 16)) = x
  have hs : i % 16 < 16 := Nat.mod_lt _ (by omega)
  generalize i % 16 = s at hs
  have h2 : (65536 : Nat) = 2 ^ s * 2 ^ (16 - s) := by rw [← Nat.pow_add, show s + (16 - s) = 16 by omega]
  rw [h2, Nat.mod_mul_right_div_self]
  have h3 : (2 : Nat) ∣ 2 ^ (16 - s) := ⟨2 ^ (15 - s), by rw [← Nat.pow_succ']; congr 1; omega⟩
  exact Nat.mod_mod_of_dvd _ h3
theorem and1_u64 {x : Int} (h0 : 0 ≤ x) (h1 : x < 18446744073709551616) : Go.bits .and .u64 x 1 = x % 2 :=
  bits_mask .u64 64 (by decide) (fun n a b => u64 a (by omega)) 1 (by decide) x h0 (by omega)
theorem negN (n : Nat) : neg (n : Int) = false := by unfold neg; simp
theorem magN (n : Nat) : mag (n : Int) = dg n := by unfold mag; rw [Int.natAbs_natCast]
theorem mag_abs (a : Int) : mag (a.natAbs : Int) = mag a := by unfold mag; rw [Int.natAbs_natCast]
theorem mag_pos_len (n : Nat) : ((mag (n : Int)).length : Int) > 0 ↔ n ≠ 0 := by
  rw [magN]
  constructor
  · rintro h rfl
    rw [dg_zero] at h; simp at h
  · intro h
    rw [dg_pos h, List.length_cons]; omega
def floorI (a b : Int) : Int × Int := if b = 0 then (0, 2) else toldI (Int.fdiv a b)
theorem floor_end (X Y : Nat) (hY : 0 < Y) (a b : Int) (hX : X = a.natAbs) (hYb : Y = b.natAbs) :
    Int.fdiv a b = if (decide (a < 0) != decide (b < 0)) = true then (if X % Y ≠ 0 then -((X / Y : Nat) : Int) + -1 else -((X / Y : Nat) : Int)) else ((X / Y : Nat) : Int) := by
  subst hX hYb
  have hdm := Nat.div_add_mod a.natAbs b.natAbs
  have hlt := Nat.mod_lt a.natAbs hY
  have hb0 : b ≠ 0 := by omega
  have f1 := Int.mul_fdiv_add_fmod a b
  generalize hq : a.natAbs / b.natAbs = q at *
  generalize hr : a.natAbs % b.natAbs = r at *
  have hm : ((b.natAbs : Int)) * (q : Int) + (r : Int) = (a.natAbs : Int) := by exact_mod_cast hdm
  have key : ∀ (z s : Int), a = b * z + s → (0 < b → 0 ≤ s ∧ s < b) → (b < 0 → b < s ∧ s ≤ 0) → Int.fdiv a b = z := by
    intro z s he hp hn
    rcases Int.lt_or_gt_of_ne hb0 with hb | hb
    · have := hn hb
      have e2 : Int.fdiv a b = Int.fdiv (-a) (-b) := (Int.neg_fdiv_neg a b).symm
      rw [e2, Int.fdiv_eq_ediv_of_nonneg _ (by omega), he]
      rw [show -(b * z + s) = -s + (-b) * z by rw [Int.neg_add, Int.neg_mul]; omega, Int.add_mul_ediv_left _ _ (by omega), Int.ediv_eq_zero_of_lt (by omega) (by omega)]
      omega
    · have := hp hb
      rw [Int.fdiv_eq_ediv_of_nonneg _ (by omega), he, Int.add_comm, Int.add_mul_ediv_left _ _ (by omega), Int.ediv_eq_zero_of_lt (by omega) (by omega)]
      omega
  by_cases ha : a < 0 <;> by_cases hb : b < 0
  · rw [decide_eq_true ha, decide_eq_true hb, if_neg (by simp)]
    refine key _ (-(r : Int)) ?_ (fun h => by omega) (fun h => by omega)
    have e1 : (b.natAbs : Int) = -b := by omega
    have e2 : (a.natAbs : Int) = -a := by omega
    rw [e1, e2, Int.neg_mul] at hm
    omega
  · rw [decide_eq_true ha, decide_eq_false hb, if_pos (by simp)]
    have e1 : (b.natAbs : Int) = b := by omega
    have e2 : (a.natAbs : Int) = -a := by omega
    rw [e1, e2] at hm
    split
    · refine key _ (b - r) ?_ (fun h => by omega) (fun h => by omega)
      rw [Int.mul_add, Int.mul_neg, Int.mul_neg]; omega
    · refine key _ 0 ?_ (fun h => by omega) (fun h => by omega)
      rw [Int.mul_neg]; omega
  · rw [decide_eq_false ha, decide_eq_true hb, if_pos (by simp)]
    have e1 : (b.natAbs : Int) = -b := by omega
    have e2 : (a.natAbs : Int) = a := by omega
    rw [e1, e2, Int.neg_mul] at hm
    split
    · refine key _ (b + r) ?_ (fun h => by omega) (fun h => by omega)
      rw [Int.mul_add, Int.mul_neg, Int.mul_neg]; omega
    · refine key _ 0 ?_ (fun h => by omega) (fun h => by omega)
      rw [Int.mul_neg]; omega
  · rw [decide_eq_false ha, decide_eq_false hb, if_neg (by simp)]
    refine key _ (r : Int) ?_ (fun h => by omega) (fun h => by omega)
    have e1 : (b.natAbs : Int) = b := by omega
    have e2 : (a.natAbs : Int) = a := by omega
    rw [e1, e2] at hm
    omega
theorem floor_bit (X i B : Nat) (hB : B = X / 2 ^ i % 2) : wrap64 (Go.bits .and .u64 (shr .u64 ((X / 65536 ^ (i / 16) % 65536 : Nat) : Int) ((i % 16 : Nat) : Int)) 1) = ((B : Nat) : Int) := by
  have hs : i % 16 < 16 := Nat.mod_lt _ (by omega)
  have hx : X / 65536 ^ (i / 16) % 65536 < 65536 := Nat.mod_lt _ (by omega)
  have hv : shr .u64 ((X / 65536 ^ (i / 16) % 65536 : Nat) : Int) ((i % 16 : Nat) : Int) = ((X / 65536 ^ (i / 16) % 65536 / 2 ^ (i % 16) : Nat) : Int) := by
    unfold shr
    rw [Int.toNat_natCast, Nat.min_eq_left (by simp [IntKind.bits]; omega)]
    simp
  have hle : X / 65536 ^ (i / 16) % 65536 / 2 ^ (i % 16) ≤ X / 65536 ^ (i / 16) % 65536 := Nat.div_le_self _ _
  have hB2 : X / 65536 ^ (i / 16) % 65536 / 2 ^ (i % 16) % 2 = B := by rw [hB, ← bit_of X i]
  rw [hv]
  clear hv
  generalize X / 65536 ^ (i / 16) % 65536 / 2 ^ (i % 16) = V at hle hB2 ⊢
  generalize X / 65536 ^ (i / 16) % 65536 = D at hle hx
  clear hB
  rw [and1_u64 (by omega) (by omega), w64 (by omega) (by omega)]
  omega
theorem floor_zero {a b : Int} {X Y : Nat} (hX : X = a.natAbs) (hY : Y = b.natAbs) (hXb : X ≤ 9223372036854775808) (hY0 : 0 < Y) :
    Ev (fun k => tabardref01_Floor.l0 k a b (((0 : Nat) : Int) - 1) false (mag a) false (mag b) (neg ((X / 2 ^ 0 / Y : Nat) : Int)) (mag ((X / 2 ^ 0 / Y : Nat) : Int)) (neg ((X / 2 ^ 0 % Y : Nat) : Int)) (mag ((X / 2 ^ 0 % Y : Nat) : Int))) (toldI (Int.fdiv a b)) := by
  refine Ev.step (fun k => by rw [tabardref01_Floor.l0]) ?_
  refine Ev.ncond (by omega) ?_
  rw [Nat.pow_zero, Nat.div_one]
  have hq : X / Y ≤ X := Nat.div_le_self _ _
  have fe := floor_end X Y hY0 a b hX hY
  generalize X / Y = Q at hq fe ⊢
  generalize X % Y = R0 at fe ⊢
  have hQb : ∀ z : Int, -1 ≤ z → z ≤ 1 → (-(Q : Int) + z).natAbs < big ∧ ((Q : Int) + z).natAbs < big := fun z _ _ => ⟨big_int (by omega) (by omega), big_int (by omega) (by omega)⟩
  have hQ0 : ((Q : Int)).natAbs < big := by have := (hQb 0 (by omega) (by omega)).2; simpa using this
  have hQ1 : (-(Q : Int)).natAbs < big := by rw [Int.natAbs_neg]; exact hQ0
  refine Ev.ite (fun hs => ?_) (fun hs => ?_)
  · rw [if_pos hs] at fe
    refine Ev.bind (minusW_ev hQ0) ?_
    refine Ev.ite (fun hr => ?_) (fun hr => ?_)
    · rw [mag_pos_len] at hr
      rw [if_pos hr] at fe
      refine Ev.bind (ofW_ev (n := -1) (by omega) (by omega)) ?_
      refine Ev.bind (plusW_ev (n := -(Q : Int)) (m := -1) hQ1 (big_int (by omega) (by omega))) ?_
      rw [fe]
      exact Ev.bind (toldW_ev (hQb (-1) (by omega) (by omega)).1) (Ev.fin rfl)
    · rw [mag_pos_len] at hr
      rw [if_neg hr] at fe
      rw [fe]
      exact Ev.bind (toldW_ev hQ1) (Ev.fin rfl)
  · rw [if_neg hs] at fe
    rw [fe]
    exact Ev.bind (toldW_ev hQ0) (Ev.fin rfl)
theorem floor_succ {a b : Int} {X Y i : Nat} (hXb : X ≤ 9223372036854775808) (hYb : Y ≤ 9223372036854775808) (hY0 : 0 < Y) (mX : mag a = mag (X : Int)) (mY : mag b = mag (Y : Int)) (hi : i + 1 ≤ 1000000)
    (ih : Ev (fun k => tabardref01_Floor.l0 k a b (((i : Nat) : Int) - 1) false (mag a) false (mag b) (neg ((X / 2 ^ i / Y : Nat) : Int)) (mag ((X / 2 ^ i / Y : Nat) : Int)) (neg ((X / 2 ^ i % Y : Nat) : Int)) (mag ((X / 2 ^ i % Y : Nat) : Int))) (toldI (Int.fdiv a b))) :
    Ev (fun k => tabardref01_Floor.l0 k a b ((((i + 1) : Nat) : Int) - 1) false (mag a) false (mag b) (neg ((X / 2 ^ (i + 1) / Y : Nat) : Int)) (mag ((X / 2 ^ (i + 1) / Y : Nat) : Int)) (neg ((X / 2 ^ (i + 1) % Y : Nat) : Int)) (mag ((X / 2 ^ (i + 1) % Y : Nat) : Int))) (toldI (Int.fdiv a b)) := by
  have hrest : X / 2 ^ (i + 1) % Y < Y := Nat.mod_lt _ hY0
  have hq : X / 2 ^ (i + 1) / Y ≤ X := Nat.le_trans (Nat.div_le_self _ _) (Nat.div_le_self _ _)
  have hbit : X / 2 ^ i % 2 < 2 := Nat.mod_lt _ (by omega)
  have hstep : X / 2 ^ i = 2 * (X / 2 ^ (i + 1)) + X / 2 ^ i % 2 := by
    rw [Nat.pow_succ, ← Nat.div_div_eq_div_mul]; omega
  obtain ⟨H, hH⟩ : ∃ H, H = X / 2 ^ (i + 1) := ⟨_, rfl⟩
  obtain ⟨B, hB⟩ : ∃ B, B = X / 2 ^ i % 2 := ⟨_, rfl⟩
  rw [← hH] at hrest hq hstep
  rw [← hB] at hstep hbit
  have hdm := Nat.div_add_mod H Y
  have hX2' : H = Y * (H / Y) + H % Y := hdm.symm
  rw [← hH]
  generalize H / Y = Q at hq hX2' ⊢
  generalize H % Y = P at hrest hX2' ⊢
  clear hdm
  have hPb : ((P : Int)).natAbs < big := big_int (by omega) (by omega)
  have hQb : ((Q : Int)).natAbs < big := big_int (by omega) (by omega)
  refine Ev.step (fun k => by rw [tabardref01_Floor.l0]) ?_
  rw [show (((i + 1 : Nat) : Int) - 1) = (i : Int) by omega]
  refine Ev.cond (by omega) ?_
  refine Ev.bind (plusW_ev (n := (P : Int)) (m := (P : Int)) hPb hPb) ?_
  have e3 := floor_bit X i B hB
  have hdig : (mag a).getD (i / 16) 0 = ((X / 65536 ^ (i / 16) % 65536 : Nat) : Int) := by rw [mX, magN, dg_getD]
  have e1 : wrap64 (Int.tdiv (i : Int) 16) = ((i / 16 : Nat) : Int) := by
    clear e3 hdig
    rw [Int.tdiv_eq_ediv_of_nonneg (by omega), w64 (by omega) (by omega)]; omega
  have e2 : IntKind.u64.wrap (Int.tmod (i : Int) 16) = ((i % 16 : Nat) : Int) := by
    clear e1 e3 hdig
    rw [Int.tmod_eq_emod_of_nonneg (by omega), u64 (by omega) (by omega)]; omega
  rw [← hdig] at e3
  generalize i / 16 = j at e1 e3
  generalize i % 16 = s at e2 e3
  clear hdig
  have ed : tabardref01_Wide_digit.f false (mag a) (wrap64 (Int.tdiv (i : Int) 16)) = some ((mag a).getD j 0) := by rw [e1, digit_ev]
  clear e1
  have hc0 : 0 ≤ IntKind.u64.wrap (Int.tmod (i : Int) 16) := by rw [e2]; exact Int.natCast_nonneg _
  refine Ev.ret ed ?_
  refine Ev.cond hc0 ?_
  have ob : Ev (fun k => tabardref01_Of.f k (wrap64 (Go.bits .and .u64 (shr .u64 ((mag a).getD j 0) (IntKind.u64.wrap (Int.tmod (i : Int) 16))) 1))) (neg (B : Int), mag (B : Int)) := by
    rw [e2, e3]
    clear ed e2 e3 hc0
    exact ofW_ev (n := (B : Int)) (by omega) (by omega)
  clear ed e2 e3 hc0
  refine Ev.bind ob ?_
  clear ob
  refine Ev.bind (plusW_ev (n := (P : Int) + (P : Int)) (m := (B : Int)) (big_int (by omega) (by omega)) (big_int (by omega) (by omega))) ?_
  refine Ev.bind (plusW_ev (n := (Q : Int)) (m := (Q : Int)) hQb hQb) ?_
  have hR : (P : Int) + (P : Int) + (B : Int) = ((2 * P + B : Nat) : Int) := by omega
  have hQ : (Q : Int) + (Q : Int) = ((2 * Q : Nat) : Int) := by omega
  rw [hR, hQ, mY]
  obtain ⟨R, hRd⟩ : ∃ R, R = 2 * P + B := ⟨_, rfl⟩
  rw [← hRd]
  have hwi : wrap64 ((i : Int) - 1) = (i : Int) - 1 := w64 (by omega) (by omega)
  have hbR : (((R : Nat) : Int)).natAbs < big := big_int (by omega) (by omega)
  have hbY : (((Y : Nat) : Int)).natAbs < big := big_int (by omega) (by omega)
  refine Ev.bind (size_ev (mag_ok _) (mag_ok _) (mag_len hbR) (mag_len hbY) (neg (R : Int)) false) ?_
  rw [vl_mag, vl_mag, Int.natAbs_natCast, Int.natAbs_natCast, hwi]
  have hX2 : X / 2 ^ i = Y * (2 * Q) + R := by
    have : Y * (2 * Q) = 2 * (Y * Q) := by rw [Nat.mul_left_comm]
    rw [hstep, hRd, this]
    generalize Y * Q = Z at hX2' ⊢
    omega
  have ih' := ih
  rw [mY] at ih'
  clear hwi
  refine Ev.ite (fun hc => ?_) (fun hc => ?_)
  · have hle : Y ≤ R := by
      unfold cmpN at hc
      by_cases h1 : R < Y
      · rw [if_pos h1] at hc; omega
      · omega
    have hq2 : X / 2 ^ i / Y = 2 * Q + 1 := by
      rw [hX2, Nat.mul_add_div hY0, show R / Y = 1 from Nat.div_eq_of_lt_le (by omega) (by omega)]
    have hr2 : X / 2 ^ i % Y = R - Y := by
      rw [hX2, Nat.mul_add_mod, Nat.mod_eq_sub_mod hle, Nat.mod_eq_of_lt (by omega)]
    rw [hq2, hr2] at ih'
    have mm := minusW_ev (n := (Y : Int)) hbY
    rw [negN] at mm
    refine Ev.bind mm ?_
    refine Ev.bind (plusW_ev (n := (R : Int)) (m := -(Y : Int)) hbR (big_int (by omega) (by omega))) ?_
    refine Ev.bind (ofW_ev (n := 1) (by omega) (by omega)) ?_
    refine Ev.bind (plusW_ev (n := ((2 * Q : Nat) : Int)) (m := 1) (big_int (by omega) (by omega)) (big_int (by omega) (by omega))) ?_
    rw [show (R : Int) + -(Y : Int) = ((R - Y : Nat) : Int) by omega, show ((2 * Q : Nat) : Int) + 1 = ((2 * Q + 1 : Nat) : Int) by omega]
    exact ih'
  · have hlt : R < Y := by
      unfold cmpN at hc
      by_cases h1 : R < Y
      · exact h1
      · rw [if_neg h1] at hc
        split at hc <;> omega
    have hq2 : X / 2 ^ i / Y = 2 * Q := by
      rw [hX2, Nat.mul_add_div hY0, Nat.div_eq_of_lt hlt, Nat.add_zero]
    have hr2 : X / 2 ^ i % Y = R := by
      rw [hX2, Nat.mul_add_mod, Nat.mod_eq_of_lt hlt]
    rw [hq2, hr2] at ih'
    exact ih'
theorem floorW_ev {a b : Int} (ha0 : -9223372036854775808 ≤ a) (ha1 : a ≤ 9223372036854775807) (hb0 : -9223372036854775808 ≤ b) (hb1 : b ≤ 9223372036854775807) :
    Ev (fun k => tabardref01_Floor.f k a b) (floorI a b) := by
  refine Ev.congr (fun k => by rw [tabardref01_Floor.f]) ?_
  unfold floorI
  by_cases hz : b = 0
  · rw [if_pos hz]
    exact Ev.cond hz (Ev.now _)
  rw [if_neg hz]
  refine Ev.ncond hz ?_
  obtain ⟨X, hX⟩ : ∃ X, X = a.natAbs := ⟨_, rfl⟩
  obtain ⟨Y, hY⟩ : ∃ Y, Y = b.natAbs := ⟨_, rfl⟩
  have hXb : X ≤ 9223372036854775808 := by omega
  have hYb : Y ≤ 9223372036854775808 := by omega
  have hY0 : 0 < Y := by omega
  have mX : mag a = mag (X : Int) := by rw [hX, mag_abs]
  have mY : mag b = mag (Y : Int) := by rw [hY, mag_abs]
  have key : ∀ (i : Nat), i ≤ 1000000 → Ev (fun k => tabardref01_Floor.l0 k a b (((i : Nat) : Int) - 1) false (mag a) false (mag b) (neg ((X / 2 ^ i / Y : Nat) : Int)) (mag ((X / 2 ^ i / Y : Nat) : Int)) (neg ((X / 2 ^ i % Y : Nat) : Int)) (mag ((X / 2 ^ i % Y : Nat) : Int))) (toldI (Int.fdiv a b)) := by
    intro i
    induction i with
    | zero => exact fun _ => floor_zero hX hY hXb hY0
    | succ i ih => exact fun hi => floor_succ hXb hYb hY0 mX mY hi (ih (by omega))
  refine Ev.bind (ofW_ev ha0 ha1) ?_
  refine Ev.bind (ofW_ev hb0 hb1) ?_
  refine Ev.bind (ofW_ev (n := 0) (by omega) (by omega)) ?_
  refine Ev.bind (ofW_ev (n := 0) (by omega) (by omega)) ?_
  have hl := mag_len' (n := a) (big_int (by omega) (by omega))
  have e1 : wrap64 (wrap64 (((mag a).length : Int) * 16) - 1) = (((mag a).length * 16 : Nat) : Int) - 1 := by
    rw [w64 (x := ((mag a).length : Int) * 16) (by omega) (by omega), w64 (by omega) (by omega)]; omega
  have hX0 : X / 2 ^ ((mag a).length * 16) = 0 := by
    apply Nat.div_eq_of_lt
    have := vl_lt (mag_ok a)
    rw [vl_mag, ← hX] at this
    rwa [Nat.mul_comm, Nat.pow_mul]
  have hk := key ((mag a).length * 16) (by omega)
  rw [hX0, Nat.zero_div, Nat.zero_mod] at hk
  simp only [e1]
  exact hk
end Go.Proofs.Ytolacbnkebbjiaa.Pure
