/- Decode of the layer of words and of its reference come to one plain function; no condition but that numbers are 64 bits wide. -/
import Derived.Test.YtolacbnkebbjiaaWordB
import Derived.Test.YtolacbnkebbjiaaWordC
import Derived.Test.YtolacbnkebbjiaaX26
import Derived.Test.YtolacbnkebbjiaaX27
import Derived.Test.YtolacbnkebbjiaaX28
import Derived.Test.YtolacbnkebbjiaaX29
namespace Go.Proofs.Ytolacbnkebbjiaa.Pure
open Go.RowKit Go.Proofs.YtolacbnkebbjiaaW.PrintWords Go.Proofs.YtolacbnkebbjiaaW.PrintLast Go.Proofs.YtolacbnkebbjiaaW.PrintMore Go.Proofs.Ytolacbnkebbjiaa.X
set_option linter.unusedVariables false

theorem scan (P : Int → Prop) [DecidablePred P] (l : List Int) : (∀ i : Nat, i < l.length → P (rd l (i : Int))) ∨ ∃ i : Nat, i < l.length ∧ (∀ j : Nat, j < i → P (rd l (j : Int))) ∧ ¬ P (rd l (i : Int)) := by
  induction l with
  | nil => exact .inl fun i hi => by simp at hi
  | cons d ds ih =>
    by_cases hd : P d
    · rcases ih with ih | ⟨i, h1, h2, h3⟩
      · refine .inl fun i hi => ?_
        cases i with
        | zero => simpa [rd] using hd
        | succ i => have := ih i (by simpa using hi); simpa [rd] using this
      · refine .inr ⟨i + 1, by simpa using h1, fun j hj => ?_, by simpa [rd] using h3⟩
        cases j with
        | zero => simpa [rd] using hd
        | succ j => have := h2 j (by omega); simpa [rd] using this
    · exact .inr ⟨0, by simp, fun j hj => absurd hj (Nat.not_lt_zero _), by simpa [rd] using hd⟩
theorem all_of_rd {P : Int → Prop} {l : List Int} (h : ∀ i : Nat, i < l.length → P (rd l (i : Int))) : ∀ a ∈ l, P a := by
  intro d hd
  obtain ⟨i, hi, rfl⟩ := List.getElem_of_mem hd
  have := h i hi
  rwa [rd_nat, List.getD_eq_getElem?_getD, List.getElem?_eq_getElem hi] at this
theorem rd_of_all {P : Int → Prop} {l : List Int} (h : ∀ a ∈ l, P a) {i : Nat} (hi : i < l.length) : P (rd l (i : Int)) := by
  rw [rd_nat, List.getD_eq_getElem?_getD, List.getElem?_eq_getElem hi]
  exact h _ (List.getElem_mem hi)
/-! ### The digits of a word at a track -/
def Letters (w : List Int) (k : Nat) : Prop := ∀ a ∈ w, 0 ≤ a ∧ a < ((2 ^ k : Nat) : Int)
instance (w : List Int) (k : Nat) : Decidable (Letters w k) := inferInstanceAs (Decidable (∀ a ∈ w, 0 ≤ a ∧ a < ((2 ^ k : Nat) : Int)))
def trk (w : List Int) (t : Nat) : List Int := w.map fun a => (dgt a t : Int)
theorem trk_length (w : List Int) (t : Nat) : (trk w t).length = w.length := by simp [trk]
theorem trk_rd (w : List Int) (t : Nat) {i : Nat} (hi : i < w.length) : rd (trk w t) (i : Int) = (dgt (rd w (i : Int)) t : Int) := by
  rw [rd_nat, List.getD_eq_getElem?_getD, List.getElem?_eq_getElem (by rw [trk_length]; exact hi), rd_nat, List.getD_eq_getElem?_getD, List.getElem?_eq_getElem hi]
  simp [trk]
theorem trk_bits (w : List Int) (t : Nat) : Bits (trk w t) := by
  intro d hd
  simp only [trk, List.mem_map] at hd
  obtain ⟨a, _, rfl⟩ := hd
  have := dgt_lt a t
  omega
theorem trk_ne {w : List Int} (h : w ≠ []) (t : Nat) : trk w t ≠ [] := by simpa [trk] using h
def tup (w : List Int) (k : Nat) : List Int := (List.range k).map fun t => tv (trk w t)
theorem tup_length (w : List Int) (k : Nat) : (tup w k).length = k := by simp [tup]
/-- What Decode answers. -/
def decS (w : List Int) (k : Int) : List Int × Int :=
  if k < 0 ∨ k > 6 then ([], 150) else if w = [] then ([], 3) else if w.length > 64 then ([], 31) else if Letters w k.toNat then (tup w k.toNat, 0) else ([], 30)
theorem letters_i64 {w : List Int} {k : Nat} (hk : k ≤ 6) (h : Letters w k) : AllI w := fun a ha => by
  have h1 := h a ha
  have h2 := pow_le6 hk
  unfold I64; omega
theorem digit_eq {a : Int} {t : Nat} (h : I64 a) (h0 : 0 ≤ a) (ht : t ≤ 61) : bits_Digit.f a (t : Int) = some (dgt a t : Int) := by
  unfold bits_Digit.f
  rw [if_neg (by omega), if_neg (by omega), if_neg (by omega), if_pos (by omega), digit_of h (by omega)]
def tset (w : List Int) (k t : Nat) : List Int := (List.range k).map fun j => if j < t then tv (trk w j) else 0
theorem tset_length (w : List Int) (k t : Nat) : (tset w k t).length = k := by simp [tset]
theorem tset_set (w : List Int) {k t : Nat} (h : t < k) : (tset w k t).set t (tv (trk w t)) = tset w k (t + 1) := by
  apply List.ext_getElem
  · simp [tset]
  · intro j h1 h2
    rw [List.getElem_set]
    by_cases e : t = j
    · subst e; simp [tset]
    · rw [if_neg e]
      simp only [tset, List.getElem_map, List.getElem_range]
      by_cases hj : j < t
      · rw [if_pos hj, if_pos (by omega)]
      · rw [if_neg hj, if_neg (by omega)]
theorem tset_none (w : List Int) (k : Nat) : tset w k 0 = List.replicate k 0 := by
  apply List.ext_getElem
  · simp [tset]
  · intro j h1 h2; simp [tset]
theorem tset_full (w : List Int) (k : Nat) : tset w k k = tup w k := by
  unfold tset tup
  apply List.map_congr_left
  intro j hj
  rw [List.mem_range] at hj
  rw [if_pos hj]
theorem rd_set (l : List Int) (i j : Nat) (x : Int) (hi : i < l.length) : rd (l.set i x) (j : Int) = if i = j then x else rd l (j : Int) := by
  rw [rd_nat, rd_nat, List.getD_eq_getElem?_getD, List.getD_eq_getElem?_getD, List.getElem?_set]
  by_cases h : i = j
  · subst h; simp [hi]
  · simp [h]
theorem numS_trk {w : List Int} (hne : w ≠ []) (h64 : w.length ≤ 64) (t : Nat) : numS (trk w t) = (tv (trk w t), 0) := by
  unfold numS
  rw [if_neg (fun h => h.elim (trk_ne hne t) (fun h => h (trk_bits w t))), if_neg (by rw [trk_length]; omega)]
theorem decode_ev {w : List Int} (hl : w.length ≤ 9000000000000000000) (k : Int) : Ev (fun n => word_Decode.f n w k) (decS w k) := by
  refine Ev.congr (fun n => by rw [word_Decode.f]) ?_
  unfold decS
  have bad : Ev (fun n => word_Decode.j0 n w k true) (([] : List Int), 150) := Ev.step (fun n => by rw [word_Decode.j0]) (Ev.cond rfl (Ev.now _))
  refine Ev.ite (fun hc => ?_) (fun hc => ?_)
  · rw [if_pos (.inl hc)]; exact bad
  by_cases h6 : k > 6
  · rw [if_pos (.inr h6), decide_eq_true h6]; exact bad
  rw [if_neg (by omega), decide_eq_false h6]
  obtain ⟨m, rfl⟩ := Int.eq_ofNat_of_zero_le (show 0 ≤ k by omega)
  rw [Int.toNat_natCast]
  refine Ev.step (fun n => by rw [word_Decode.j0]) ?_
  refine Ev.ncond (by simp) ?_
  refine Ev.ite (fun h0 => ?_) (fun h0 => ?_)
  · rw [if_pos (List.eq_nil_of_length_eq_zero (by omega))]; exact Ev.now _
  have hne : w ≠ [] := fun e => h0 (by rw [e]; rfl)
  rw [if_neg hne]
  by_cases h64 : w.length > 64
  · rw [if_pos h64]; exact Ev.cond (by omega) (Ev.now _)
  rw [if_neg h64]
  refine Ev.ncond (by omega) ?_
  have hp := pow_le6 (show m ≤ 6 by omega)
  have es : shl .i64 1 (m : Int) = ((2 ^ m : Nat) : Int) := by
    unfold shl
    rw [Int.toNat_natCast, Nat.min_eq_left (by simp [IntKind.bits]; omega), Int.one_mul, show (2 : Int) ^ m = ((2 ^ m : Nat) : Int) by simp, i64_w]
    generalize 2 ^ m = p at hp
    exact w64 (by omega) (by omega)
  rcases scan (fun a => 0 ≤ a ∧ a < ((2 ^ m : Nat) : Int)) w with hg | ⟨z, hz, hz1, hz2⟩
  · have hL : Letters w m := all_of_rd hg
    have hA := letters_i64 (by omega) hL
    rw [if_pos hL]
    have l2 : ∀ (t : Nat), t < m → ∀ (d i : Nat) (buf : List Int), i + d = w.length → buf.length = w.length → (∀ j : Nat, j < i → rd buf (j : Int) = (dgt (rd w (j : Int)) t : Int)) →
        (Ev (fun n => word_Decode.l1 n w (tset w m (t + 1)) (trk w t) (m : Int) ((t + 1 : Nat) : Int)) (tup w m, 0)) →
        Ev (fun n => word_Decode.l2 n w (tset w m t) buf (t : Int) (m : Int) (t : Int) w (w.length : Int) (i : Int)) (tup w m, 0) := by
      intro t ht d
      induction d with
      | zero =>
        intro i buf hi hbl hb hk
        have hbuf : buf = trk w t := by
          refine list_eq_of (by rw [trk_length]; exact hbl) fun j hj => ?_
          rw [hb j (by omega), trk_rd w t (by omega)]
        refine Ev.step (fun n => by rw [word_Decode.l2]) ?_
        refine Ev.ncond (by omega) ?_
        have hn := number_ev (l := buf) (by omega)
        rw [hbuf, numS_trk hne (by omega) t] at hn
        rw [hbuf]
        refine Ev.bind hn (Ev.cond (by omega) (Ev.cond (by rw [tset_length]; omega) ?_))
        rw [Int.toNat_natCast, tset_set w ht, w64 (by omega) (by omega)]
        exact hk
      | succ d ih =>
        intro i buf hi hbl hb hk
        refine Ev.step (fun n => by rw [word_Decode.l2]) ?_
        refine Ev.cond (by omega) (Ev.cond (by omega) (Ev.cond (by omega) ?_))
        have hgi := hg i (by omega)
        refine Ev.ret (digit_eq (allI_rd hA (by omega)) hgi.1 (by omega)) ?_
        refine Ev.cond (by omega) ?_
        rw [Int.toNat_natCast, w64 (by omega) (by omega)]
        refine ih (i + 1) _ (by omega) (by rw [List.length_set]; exact hbl) (fun j hj => ?_) hk
        rw [rd_set buf i j _ (by omega)]
        by_cases e : i = j
        · subst e; rw [if_pos rfl]
        · rw [if_neg e]; exact hb j (by omega)
    have l1 : ∀ (d t : Nat) (buf : List Int), t + d = m → buf.length = w.length → Ev (fun n => word_Decode.l1 n w (tset w m t) buf (m : Int) (t : Int)) (tup w m, 0) := by
      intro d
      induction d with
      | zero =>
        intro t buf ht hbl
        refine Ev.step (fun n => by rw [word_Decode.l1]) (Ev.ncond (by omega) (Ev.fin ?_))
        obtain rfl : t = m := by omega
        rw [tset_full]
      | succ d ih =>
        intro t buf ht hbl
        refine Ev.step (fun n => by rw [word_Decode.l1]) (Ev.cond (by omega) ?_)
        exact l2 t (by omega) w.length 0 buf (by omega) hbl (fun j hj => absurd hj (Nat.not_lt_zero _)) (ih (t + 1) (trk w t) (by omega) (trk_length w t))
    have l0 : ∀ (d i : Nat), i + d = w.length → Ev (fun n => word_Decode.l0 n w (m : Int) w (w.length : Int) (i : Int)) (tup w m, 0) := by
      intro d
      induction d with
      | zero =>
        intro i hi
        refine Ev.step (fun n => by rw [word_Decode.l0]) ?_
        refine Ev.ncond (by omega) (Ev.cond (by omega) (Ev.cond (by omega) (Ev.ret rfl (Ev.cond (by omega) (Ev.cond (by omega) ?_)))))
        rw [Int.toNat_natCast, ← tset_none w m, tset_length]
        exact l1 m 0 _ (by omega) (by simp)
      | succ d ih =>
        intro i hi
        have hgi := hg i (by omega)
        refine Ev.step (fun n => by rw [word_Decode.l0]) ?_
        refine Ev.cond (by omega) (Ev.cond (by omega) (Ev.cond (by omega) (Ev.ncond (by omega) (Ev.cond (by omega) ?_))))
        rw [es]
        refine Ev.ncond (by omega) ?_
        rw [w64 (by omega) (by omega)]
        exact ih (i + 1) (by omega)
    exact l0 w.length 0 (by omega)
  · have hL : ¬ Letters w m := fun h => hz2 (rd_of_all h hz)
    rw [if_neg hL]
    have l0 : ∀ (d i : Nat), i + d = z → Ev (fun n => word_Decode.l0 n w (m : Int) w (w.length : Int) (i : Int)) (([] : List Int), 30) := by
      intro d
      induction d with
      | zero =>
        intro i hi
        obtain rfl : i = z := by omega
        refine Ev.step (fun n => by rw [word_Decode.l0]) ?_
        refine Ev.cond (by omega) (Ev.cond (by omega) (Ev.cond (by omega) ?_))
        refine Ev.ite (fun _ => Ev.now _) (fun hn => Ev.cond (by omega) ?_)
        rw [es]
        refine Ev.cond ?_ (Ev.now _)
        have : ¬ (rd w (i : Int) < ((2 ^ m : Nat) : Int)) := fun h => hz2 ⟨by omega, h⟩
        omega
      | succ d ih =>
        intro i hi
        have hgi := hz1 i (by omega)
        refine Ev.step (fun n => by rw [word_Decode.l0]) ?_
        refine Ev.cond (by omega) (Ev.cond (by omega) (Ev.cond (by omega) (Ev.ncond (by omega) (Ev.cond (by omega) ?_))))
        rw [es]
        refine Ev.ncond (by omega) ?_
        rw [w64 (by omega) (by omega)]
        exact ih (i + 1) (by omega)
    exact l0 z 0 (by omega)

/-! ### The reference's Decode -/
theorem power_ev {m : Nat} (hm : m ≤ 62) : Ev (fun k => tabardref03_Power.f k (m : Int)) ((2 ^ m : Nat) : Int) := by
  have key : ∀ (d i : Nat), i + d = m → Ev (fun k => tabardref03_Power.l0 k (m : Int) ((2 ^ i : Nat) : Int) (i : Int)) ((2 ^ m : Nat) : Int) := by
    intro d
    induction d with
    | zero =>
      intro i hi
      refine Ev.step (fun k => by rw [tabardref03_Power.l0]) (Ev.ncond (by omega) (Ev.fin ?_))
      obtain rfl : i = m := by omega
      rfl
    | succ d ih =>
      intro i hi
      refine Ev.step (fun k => by rw [tabardref03_Power.l0]) (Ev.cond (by omega) ?_)
      have h1 : 2 ^ i * 2 ≤ 4611686018427387904 := by
        rw [← Nat.pow_succ]
        have : 2 ^ (i + 1) ≤ 2 ^ 62 := Nat.pow_le_pow_right (by omega) (by omega)
        simpa using this
      have e : wrap64 (((2 ^ i : Nat) : Int) * 2) = ((2 ^ (i + 1) : Nat) : Int) := by
        rw [Nat.pow_succ]
        generalize 2 ^ i = p at h1
        rw [w64 (by omega) (by omega)]; omega
      rw [e, w64 (by omega) (by omega)]
      exact ih (i + 1) (by omega)
  have := key m 0 (by omega)
  exact this
theorem track_ev {w : List Int} (hw : w.length ≤ 1000000) (hn : ∀ a ∈ w, 0 ≤ a ∧ I64 a) {t : Nat} (ht : t ≤ 62) : Ev (fun k => tabardref03_Track.f k w (t : Int)) (trk w t) := by
  have key : ∀ (d i : Nat) (out : List Int), i + d = w.length → out = (trk w t).take i → Ev (fun k => tabardref03_Track.l0 k w (t : Int) out (i : Int)) (trk w t) := by
    intro d
    induction d with
    | zero =>
      intro i out hi ho
      refine Ev.step (fun k => by rw [tabardref03_Track.l0]) (Ev.ncond (by omega) (Ev.fin ?_))
      rw [ho, List.take_of_length_le (by rw [trk_length]; omega)]
    | succ d ih =>
      intro i out hi ho
      refine Ev.step (fun k => by rw [tabardref03_Track.l0]) (Ev.cond (by omega) (Ev.cond (by omega) ?_))
      refine Ev.bind (power_ev ht) ?_
      have hpos : 0 < 2 ^ t := Nat.two_pow_pos _
      have hlen : out.length < 17592186044416 := by rw [ho, List.length_take]; omega
      refine Ev.ncond (by omega) (Ev.cond hlen ?_)
      have ha : 0 ≤ rd w (i : Int) ∧ I64 (rd w (i : Int)) := rd_of_all (P := fun a => 0 ≤ a ∧ I64 a) hn (by omega)
      have e : Int.tmod (wrap64 (Int.tdiv (rd w (i : Int)) ((2 ^ t : Nat) : Int))) 2 = (dgt (rd w (i : Int)) t : Int) := by
        have hc : ((2 ^ t : Nat) : Int) = (2 : Int) ^ t := by simp
        have h1 := i64_shr ha.2 t
        have h2 : 0 ≤ rd w (i : Int) / 2 ^ t := Int.ediv_nonneg ha.1 (Int.pow_nonneg (by omega))
        rw [Int.tdiv_eq_ediv_of_nonneg ha.1, hc, w64 h1.1 h1.2, Int.tmod_eq_emod_of_nonneg h2, dgt_int]
      rw [e, w64 (by omega) (by omega)]
      refine ih (i + 1) _ (by omega) ?_
      rw [ho, List.take_succ_eq_append_getElem (by rw [trk_length]; omega)]
      congr 2
      have := trk_rd w t (show i < w.length by omega)
      rw [rd_nat, List.getD_eq_getElem?_getD, List.getElem?_eq_getElem (by rw [trk_length]; omega)] at this
      exact this.symm
  have := key w.length 0 [] (by omega) (by simp)
  exact this
theorem rdecode_ev {w : List Int} (hl : w.length ≤ 9000000000000000000) (k : Int) : Ev (fun n => tabardref03_Decode.f n w k) (decS w k) := by
  refine Ev.congr (fun n => by rw [tabardref03_Decode.f]) ?_
  unfold decS
  have bad : Ev (fun n => tabardref03_Decode.j0 n w k true) (([] : List Int), 150) := Ev.step (fun n => by rw [tabardref03_Decode.j0]) (Ev.cond rfl (Ev.now _))
  refine Ev.ite (fun hc => ?_) (fun hc => ?_)
  · rw [if_pos (.inl hc)]; exact bad
  by_cases h6 : k > 6
  · rw [if_pos (.inr h6), decide_eq_true h6]; exact bad
  rw [if_neg (by omega), decide_eq_false h6]
  obtain ⟨m, rfl⟩ := Int.eq_ofNat_of_zero_le (show 0 ≤ k by omega)
  rw [Int.toNat_natCast]
  refine Ev.step (fun n => by rw [tabardref03_Decode.j0]) ?_
  refine Ev.ncond (by simp) ?_
  refine Ev.ite (fun h0 => ?_) (fun h0 => ?_)
  · rw [if_pos (List.eq_nil_of_length_eq_zero (by omega))]; exact Ev.now _
  have hne : w ≠ [] := fun e => h0 (by rw [e]; rfl)
  rw [if_neg hne]
  by_cases h64 : w.length > 64
  · rw [if_pos h64]; exact Ev.cond (by omega) (Ev.now _)
  rw [if_neg h64]
  refine Ev.ncond (by omega) ?_
  have hpw := power_ev (show m ≤ 62 by omega)
  rcases scan (fun a => 0 ≤ a ∧ a < ((2 ^ m : Nat) : Int)) w with hg | ⟨z, hz, hz1, hz2⟩
  · have hL : Letters w m := all_of_rd hg
    have hA := letters_i64 (by omega) hL
    rw [if_pos hL]
    have l1 : ∀ (d t : Nat) (out : List Int), t + d = m → out = (tup w m).take t → Ev (fun n => tabardref03_Decode.l1 n w (m : Int) out (t : Int)) (tup w m, 0) := by
      intro d
      induction d with
      | zero =>
        intro t out ht ho
        refine Ev.step (fun n => by rw [tabardref03_Decode.l1]) (Ev.ncond (by omega) (Ev.fin ?_))
        rw [ho, List.take_of_length_le (by rw [tup_length]; omega)]
      | succ d ih =>
        intro t out ht ho
        refine Ev.step (fun n => by rw [tabardref03_Decode.l1]) (Ev.cond (by omega) ?_)
        refine Ev.bind (track_ev (by omega) (fun a ha => ⟨(hL a ha).1, hA a ha⟩) (show t ≤ 62 by omega)) ?_
        have hn := rnumber_ev (l := trk w t) (by rw [trk_length]; omega)
        rw [numS_trk hne (by omega) t] at hn
        have hlen : out.length < 17592186044416 := by rw [ho, List.length_take]; omega
        refine Ev.bind hn (Ev.cond hlen ?_)
        rw [w64 (by omega) (by omega)]
        refine ih (t + 1) _ (by omega) ?_
        rw [ho, List.take_succ_eq_append_getElem (by rw [tup_length]; omega)]
        congr 2
        simp [tup]
    have l0 : ∀ (d i : Nat), i + d = w.length → Ev (fun n => tabardref03_Decode.l0 n w (m : Int) (i : Int)) (tup w m, 0) := by
      intro d
      induction d with
      | zero =>
        intro i hi
        refine Ev.step (fun n => by rw [tabardref03_Decode.l0]) ?_
        refine Ev.ncond (by omega) ?_
        exact l1 m 0 _ (by omega) (by simp)
      | succ d ih =>
        intro i hi
        have hgi := hg i (by omega)
        refine Ev.step (fun n => by rw [tabardref03_Decode.l0]) ?_
        refine Ev.cond (by omega) (Ev.cond (by omega) (Ev.ncond (by omega) (Ev.bind hpw (Ev.ncond (by omega) ?_))))
        rw [w64 (by omega) (by omega)]
        exact ih (i + 1) (by omega)
    exact l0 w.length 0 (by omega)
  · have hL : ¬ Letters w m := fun h => hz2 (rd_of_all h hz)
    rw [if_neg hL]
    have l0 : ∀ (d i : Nat), i + d = z → Ev (fun n => tabardref03_Decode.l0 n w (m : Int) (i : Int)) (([] : List Int), 30) := by
      intro d
      induction d with
      | zero =>
        intro i hi
        obtain rfl : i = z := by omega
        refine Ev.step (fun n => by rw [tabardref03_Decode.l0]) ?_
        refine Ev.cond (by omega) (Ev.cond (by omega) ?_)
        refine Ev.ite (fun _ => Ev.now _) (fun hn => Ev.bind hpw ?_)
        refine Ev.cond ?_ (Ev.now _)
        have : ¬ (rd w (i : Int) < ((2 ^ m : Nat) : Int)) := fun h => hz2 ⟨by omega, h⟩
        omega
      | succ d ih =>
        intro i hi
        have hgi := hz1 i (by omega)
        refine Ev.step (fun n => by rw [tabardref03_Decode.l0]) ?_
        refine Ev.cond (by omega) (Ev.cond (by omega) (Ev.ncond (by omega) (Ev.bind hpw (Ev.ncond (by omega) ?_))))
        rw [w64 (by omega) (by omega)]
        exact ih (i + 1) (by omega)
    exact l0 z 0 (by omega)
end Go.Proofs.Ytolacbnkebbjiaa.Pure
