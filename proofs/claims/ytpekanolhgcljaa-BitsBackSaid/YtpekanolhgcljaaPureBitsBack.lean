/- The law BitsBack over numbers and lists alone: what is inserted is removed again, what is spread is gathered again; no condition beyond the statement's own. -/
import Derived.Test.YtpekanolhgcljaaPureBitsPlaces
import Derived.Test.YtpekanolhgcljaaX1
import Derived.Test.YtpekanolhgcljaaX11
import Derived.Test.YtpekanolhgcljaaX14
import Derived.Test.YtpekanolhgcljaaX3
import Derived.Test.YtpekanolhgcljaaX5
import Derived.Test.YtpekanolhgcljaaX8
namespace Go.Proofs.Ytpekanolhgcljaa.Pure
open Go.RowKit Go.Proofs.YtpekanolhgcljaaW.PrintWords Go.Proofs.YtpekanolhgcljaaW.PrintLast Go.Proofs.YtpekanolhgcljaaW.PrintMore Go.Proofs.Ytpekanolhgcljaa.X
set_option linter.unusedVariables false
def okI (a t d : Int) : Bool := match bits_Insert.f a t d with
  | some (b, e) => decide (e = 0) && decide (bits_Remove.f b t = some (a, 0)) && decide (bits_Digit.f b t = some d) && decide (∀ i : Fin 6, bits_Digit.f b (if (i.val : Int) ≥ t then (i.val : Int) + 1 else (i.val : Int)) = bits_Digit.f a (i.val : Int) ∧ (bits_Digit.f a (i.val : Int)).isSome = true)
  | none => false
theorem okI_all : ∀ a : Fin 32, ∀ t : Fin 6, ∀ d : Fin 2, okI (a.val : Int) (t.val : Int) (d.val : Int) = true := by decide +kernel
theorem ins_in {a t d : Int} (c : 0 ≤ a ∧ a < 32 ∧ 0 ≤ t ∧ t < 6 ∧ 0 ≤ d ∧ d < 2) : ∃ b, bits_Insert.f a t d = some (b, 0) ∧ bits_Remove.f b t = some (a, 0) ∧ bits_Digit.f b t = some d ∧ ∀ i : Nat, i < 6 → ∃ q, bits_Digit.f b (if (i : Int) ≥ t then (i : Int) + 1 else (i : Int)) = some q ∧ bits_Digit.f a (i : Int) = some q := by
  obtain ⟨i, rfl⟩ := Int.eq_ofNat_of_zero_le c.1
  obtain ⟨j, rfl⟩ := Int.eq_ofNat_of_zero_le c.2.2.1
  obtain ⟨m, rfl⟩ := Int.eq_ofNat_of_zero_le c.2.2.2.2.1
  have h := okI_all ⟨i, by omega⟩ ⟨j, by omega⟩ ⟨m, by omega⟩
  simp only [okI] at h
  split at h
  · rename_i b e he
    simp only [Bool.and_eq_true, decide_eq_true_eq] at h
    obtain ⟨⟨⟨rfl, h2⟩, h3⟩, h4⟩ := h
    refine ⟨b, he, h2, h3, fun z hz => ?_⟩
    have := h4 ⟨z, hz⟩
    obtain ⟨q, hq⟩ := Option.isSome_iff_exists.1 this.2
    exact ⟨q, this.1.trans hq, hq⟩
  · cases h
theorem ins_out {a t d : Int} (c : ¬ (0 ≤ a ∧ a < 32 ∧ 0 ≤ t ∧ t < 6 ∧ 0 ≤ d ∧ d < 2)) : bits_Insert.f a t d = some (0, 2) := by
  have e5 : shl .i64 1 5 = 32 := by decide
  unfold bits_Insert.f bits_letters.f
  rw [e5]
  by_cases c0 : a ≥ 0
  · rw [if_pos c0, if_pos (by omega), Option.bind_some]
    by_cases c1 : a < 32
    · rw [decide_eq_true c1, if_pos rfl]
      by_cases c2 : t < 0
      · rw [if_pos c2]
      · rw [if_neg c2]
        by_cases c3 : t ≥ 6
        · rw [if_pos c3]
        · rw [if_neg c3, if_neg (by omega), if_neg (by omega)]
    · rw [decide_eq_false c1]; rfl
  · rw [if_neg c0]; rfl
theorem spread_tells {l : List Int} (h : PL l) {m : Nat} (hm : m < 64) :
    ∀ (j i o k : Nat), i + j = l.length → o < 64 → k < 64 → (∀ z : Fin 6, k / 2 ^ z.val % 2 = 0 → o / 2 ^ z.val % 2 = 0) →
    Ev (fun n => bits_Spread.l0 n (m : Int) (o : Int) (k : Int) l (l.length : Int) (i : Int)) (0, 5) ∨
    ∃ s : Nat, s < 64 ∧ Ev (fun n => bits_Spread.l0 n (m : Int) (o : Int) (k : Int) l (l.length : Int) (i : Int)) ((s : Int), 0) ∧ (∀ q : Nat, i ≤ q → q < l.length → s / 2 ^ (rd l (q : Int)).toNat % 2 = m / 2 ^ q % 2) ∧ (∀ z : Fin 6, k / 2 ^ z.val % 2 = 1 → s / 2 ^ z.val % 2 = o / 2 ^ z.val % 2) := by
  intro j
  have h6 := h.1
  induction j with
  | zero =>
    intro i o k hi ho hk hs
    exact .inr ⟨o, ho, Ev.step (fun n => by rw [bits_Spread.l0]) (Ev.ncond (by omega) (Ev.fin rfl)), fun q hq hq2 => by omega, fun z _ => rfl⟩
  | succ j ih =>
    intro i o k hi ho hk hs
    have h2 := h.2 i (by omega)
    obtain ⟨p, hp⟩ := Int.eq_ofNat_of_zero_le h2.1
    have hp6 : p < 6 := by omega
    obtain ⟨k1, k2, k3⟩ := sp_k ⟨k, hk⟩ ⟨p, hp6⟩
    simp only [] at k1 k2 k3
    by_cases c : k / 2 ^ p % 2 = 0
    · have hd : m / 2 ^ i % 2 < 2 := Nat.mod_lt _ (by omega)
      obtain ⟨o1, o2, o3, o4⟩ := sp_o ⟨o, ho⟩ ⟨p, hp6⟩ ⟨m / 2 ^ i % 2, hd⟩ (hs ⟨p, hp6⟩ c)
      obtain ⟨k4, k5, k6, k7⟩ := k3 c
      simp only [] at o1 o2 o3 o4
      have go : ∀ {r : Int × Int}, Ev (fun n => bits_Spread.l0 n (m : Int) ((o + m / 2 ^ i % 2 * 2 ^ p : Nat) : Int) ((k + 2 ^ p : Nat) : Int) l (l.length : Int) ((i + 1 : Nat) : Int)) r → Ev (fun n => bits_Spread.l0 n (m : Int) (o : Int) (k : Int) l (l.length : Int) (i : Int)) r := by
        intro r r1
        refine Ev.step (fun n => by rw [bits_Spread.l0]) (Ev.cond (by omega) (Ev.cond (by omega) (Ev.cond (by omega) (Ev.cond (by omega) ?_))))
        rw [hp, k1, c]
        refine Ev.ncond (by decide) (Ev.ret (di_o ⟨m, hm⟩ ⟨i, by omega⟩) ?_)
        rw [w64 (by omega) (by omega)]
        simp only []
        rw [o1, k4]
        exact r1
      rcases ih (i + 1) (o + m / 2 ^ i % 2 * 2 ^ p) (k + 2 ^ p) (by omega) o2 k5 (fun z hz => by
        rw [o4 z]
        have := k7 z
        rw [hz] at this
        by_cases e : z = ⟨p, hp6⟩
        · rw [if_pos e] at this; omega
        · rw [if_neg e] at this ⊢; exact hs z this.symm) with hE | ⟨s, s1, s2, s3, s4⟩
      · exact .inl (go hE)
      · refine .inr ⟨s, s1, go s2, fun q hq hq2 => ?_, fun z hz => ?_⟩
        · by_cases e : q = i
          · subst e
            have a1 := k7 ⟨p, hp6⟩
            have a2 := o4 ⟨p, hp6⟩
            rw [if_pos rfl] at a1 a2
            have a3 := s4 ⟨p, hp6⟩ a1
            rw [hp, Int.toNat_natCast]
            exact a3.trans a2
          · exact s3 q (by omega) hq2
        · have hne : z ≠ ⟨p, hp6⟩ := fun e => by subst e; simp only [] at hz; omega
          have a1 := k7 z
          have a2 := o4 z
          rw [if_neg hne] at a1 a2
          exact (s4 z (a1.trans hz)).trans a2
    · have c1 : k / 2 ^ p % 2 = 1 := by omega
      refine .inl (Ev.step (fun n => by rw [bits_Spread.l0]) (Ev.cond (by omega) (Ev.cond (by omega) (Ev.cond (by omega) (Ev.cond (by omega) ?_)))))
      rw [hp, k1, c1]
      exact Ev.cond (by decide) (Ev.fin rfl)
theorem gather_back {l : List Int} (h : PL l) {m s : Nat} (hs : s < 64) (hb : ∀ q : Nat, q < l.length → s / 2 ^ (rd l (q : Int)).toNat % 2 = m / 2 ^ q % 2) :
    ∀ (j i : Nat), i + j = l.length → Ev (fun n => bits_Gather.l0 n (s : Int) ((m % 2 ^ i : Nat) : Int) l (l.length : Int) (i : Int)) (((m % 2 ^ l.length : Nat) : Int), 0) := by
  intro j
  have h6 := h.1
  induction j with
  | zero =>
    intro i hi
    obtain rfl : i = l.length := by omega
    exact Ev.step (fun n => by rw [bits_Gather.l0]) (Ev.ncond (by omega) (Ev.fin rfl))
  | succ j ih =>
    intro i hi
    have hq := pow6 (show i ≤ 6 by omega)
    have h2 := h.2 i (by omega)
    obtain ⟨p, hp⟩ := Int.eq_ofNat_of_zero_le h2.1
    have hp6 : p < 6 := by omega
    have hd : m / 2 ^ i % 2 < 2 := Nat.mod_lt _ (by omega)
    have ho : m % 2 ^ i < 2 ^ i := Nat.mod_lt _ (Nat.two_pow_pos i)
    obtain ⟨o1, o2, o3⟩ := ga_o ⟨i, by omega⟩ ⟨m % 2 ^ i, by omega⟩ ⟨m / 2 ^ i % 2, hd⟩ ho
    simp only [] at o1 o2 o3
    have hb2 := hb i (by omega)
    rw [hp, Int.toNat_natCast] at hb2
    refine Ev.step (fun n => by rw [bits_Gather.l0]) (Ev.cond (by omega) (Ev.cond (by omega) (Ev.cond (by omega) ?_)))
    rw [hp]
    refine Ev.ret (di_o ⟨s, hs⟩ ⟨p, hp6⟩) ?_
    rw [w64 (by omega) (by omega)]
    simp only []
    rw [hb2, o1]
    have e : m % 2 ^ i + m / 2 ^ i % 2 * 2 ^ i = m % 2 ^ (i + 1) := by rw [Nat.mod_pow_succ, Nat.mul_comm]
    rw [e]
    exact ih (i + 1) (by omega)
theorem back_ev (a : Int) {l : List Int} (hl : l.length ≤ 17592186044000) : Ev (fun k => tabardlaw02_BitsBack.j3 k a l) true := by
  refine Ev.step (fun k => by rw [tabardlaw02_BitsBack.j3]) ?_
  refine Ev.ret rfl (Ev.cond (by simp; omega) ?_)
  rw [List.nil_append]
  have bad : Ev (fun k => bits_Spread.j0 k a l true) (0, 2) := Ev.step (fun k => by rw [bits_Spread.j0]) (Ev.cond rfl (Ev.fin rfl))
  have out : Ev (fun k => bits_Spread.f k a l) (0, 2) → Ev (fun k => (bits_Spread.f k a l).bind fun bt252 => (if bt252.2 = 0 then ((some (([] : List Int) : List Int)).bind fun y254 => (if y254.length + l.length < 17592186044416 then ((bits_Gather.f k bt252.1 (y254 ++ l)).bind fun bt260 => (if bt260.2 = 0 then (some (bt260.1 == a)) else (some false))) else (none))) else (if bt252.1 = 0 then (if bt252.2 = 2 then (some true) else (some (bt252.2 == 5))) else (some false)))) true := by
    intro hE
    exact Ev.bind hE (Ev.ncond (by decide) (Ev.cond rfl (Ev.cond rfl (Ev.fin rfl))))
  by_cases h : PL l
  · have h6 := h.1
    by_cases c : 0 ≤ a ∧ a < ((2 ^ l.length : Nat) : Int)
    · obtain ⟨m, rfl⟩ := Int.eq_ofNat_of_zero_le c.1
      have hp := pow6 h6
      have hm : m < 64 := by omega
      have start : ∀ {r : Int × Int}, Ev (fun n => bits_Spread.l0 n (m : Int) ((0 : Nat) : Int) ((0 : Nat) : Int) l (l.length : Int) ((0 : Nat) : Int)) r → Ev (fun k => bits_Spread.f k (m : Int) l) r := by
        intro r r1
        refine Ev.congr (fun k => by rw [bits_Spread.f]) (Ev.bind (places_ok h) (Ev.cond rfl (Ev.ret (letters_eq _ h6) ?_)))
        rw [decide_eq_true c]
        refine Ev.step (fun k => by rw [bits_Spread.j0]) (Ev.ncond (by decide) ?_)
        exact r1
      rcases spread_tells h hm l.length 0 0 0 (by omega) (by omega) (by omega) (fun z _ => by simp) with hE | ⟨s, s1, s2, s3, s4⟩
      · exact Ev.bind (start hE) (Ev.ncond (by decide) (Ev.cond rfl (Ev.ncond (by decide) (Ev.fin rfl))))
      · refine Ev.bind (start s2) (Ev.cond rfl (Ev.ret rfl (Ev.cond (by simp; omega) ?_)))
        rw [List.nil_append]
        have hg : Ev (fun k => bits_Gather.f k (s : Int) l) ((m : Int), 0) := by
          refine Ev.congr (fun k => by rw [bits_Gather.f]) (Ev.bind (places_ok h) (Ev.cond rfl (Ev.ret (letters6 _) ?_)))
          rw [decide_eq_true (by omega)]
          refine Ev.step (fun k => by rw [bits_Gather.j0]) (Ev.ncond (by decide) ?_)
          have := gather_back h s1 (m := m) (fun q hq => s3 q (by omega) hq) l.length 0 (by omega)
          rw [Nat.mod_eq_of_lt (show m < 2 ^ l.length by omega), Nat.pow_zero, Nat.mod_one] at this
          exact this
        exact Ev.bind hg (Ev.cond rfl (Ev.fin (by simp)))
    · refine out (Ev.congr (fun k => by rw [bits_Spread.f]) (Ev.bind (places_ok h) (Ev.cond rfl (Ev.ret (letters_eq _ h6) ?_))))
      rw [decide_eq_false c]
      exact bad
  · refine out (Ev.congr (fun k => by rw [bits_Spread.f]) ?_)
    exact Ev.bind (places_no h) (Ev.ncond (by decide) bad)
theorem BitsBack : tabardlaw02_BitsBack.Pure := by
  intro a t d l ha ht hd hm hs hw
  have hb := back_ev a (l := l) (by omega)
  refine Ev.rounds (g := fun k => tabardlaw02_BitsBack.f k a t d l) ?_
  refine Ev.congr (fun k => by rw [tabardlaw02_BitsBack.f]) ?_
  refine Ev.ret (by rw [tabardlaw02_fixed.f]) (Ev.cond rfl ?_)
  by_cases c : 0 ≤ a ∧ a < 32 ∧ 0 ≤ t ∧ t < 6 ∧ 0 ≤ d ∧ d < 2
  · obtain ⟨b, b1, b2, b3, b4⟩ := ins_in c
    refine Ev.ret b1 (Ev.cond rfl (Ev.ret b2 (Ev.cond rfl (Ev.cond rfl (Ev.ret b3 ?_)))))
    rw [bne_self_eq_false]
    refine Ev.step (fun k => by rw [tabardlaw02_BitsBack.j0]) (Ev.ncond (by decide) ?_)
    have key : ∀ (m i : Nat), i + m = 6 → Ev (fun k => tabardlaw02_BitsBack.l0 k a t l b (i : Int)) true := by
      intro m
      induction m with
      | zero =>
        intro i hi
        exact Ev.step (fun k => by rw [tabardlaw02_BitsBack.l0]) (Ev.ncond (by omega) hb)
      | succ m ih =>
        intro i hi
        obtain ⟨q, q1, q2⟩ := b4 i (by omega)
        have next : ∀ u : Int, bits_Digit.f b u = some q → Ev (fun k => tabardlaw02_BitsBack.j2 k a t l b (i : Int) u (i : Int)) true := by
          intro u hto
          refine Ev.step (fun k => by rw [tabardlaw02_BitsBack.j2]) (Ev.ret hto (Ev.ret q2 (Ev.cond rfl ?_)))
          rw [w64 (by omega) (by omega)]
          exact ih (i + 1) (by omega)
        refine Ev.step (fun k => by rw [tabardlaw02_BitsBack.l0]) (Ev.cond (by omega) (Ev.ite (fun h => ?_) (fun h => ?_)))
        · rw [w64 (by omega) (by omega)]
          rw [if_pos h] at q1
          exact next _ q1
        · rw [if_neg h] at q1
          exact next _ q1
    exact key 6 0 (by omega)
  · refine Ev.ret (ins_out c) ?_
    exact Ev.ncond (by decide) hb
end Go.Proofs.Ytpekanolhgcljaa.Pure
