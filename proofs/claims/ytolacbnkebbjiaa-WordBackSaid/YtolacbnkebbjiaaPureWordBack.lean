/- The law WordBack over lists alone: a tuple's words are told back; no condition beyond the statement's own. -/
import Derived.Test.YtolacbnkebbjiaaWordD
import Derived.Test.YtolacbnkebbjiaaWordE
import Derived.Test.YtolacbnkebbjiaaX36
namespace Go.Proofs.Ytolacbnkebbjiaa.Pure
open Go.RowKit Go.Proofs.YtolacbnkebbjiaaW.PrintWords Go.Proofs.YtolacbnkebbjiaaW.PrintLast Go.Proofs.YtolacbnkebbjiaaW.PrintMore Go.Proofs.Ytolacbnkebbjiaa.X
set_option linter.unusedVariables false
def sgn (v : Int) : Nat := if v < 0 then 1 else 0
theorem len2_one {v : Int} (h : I64 v) (h1 : len2 v ≤ 1) : v = 0 ∨ v = -1 := by
  by_cases h0 : v = 0 ∨ v = -1
  · exact h0
  · have h2 := len2_step h h0
    have h3 := len2_pos (v / 2)
    omega
theorem dgt_sgn0 {v : Int} (h : v = 0 ∨ v = -1) : ∀ i, dgt v i = sgn v := by
  intro i
  induction i with
  | zero => rcases h with rfl | rfl <;> decide
  | succ i ih =>
    rw [← dgt_half, show v / 2 = v by omega]
    exact ih
theorem dgt_sgn : ∀ (n : Nat) (v : Int), I64 v → len2 v ≤ n + 1 → ∀ i, n ≤ i → dgt v i = sgn v := by
  intro n
  induction n with
  | zero => intro v h h1 i _; exact dgt_sgn0 (len2_one h h1) i
  | succ n ih =>
    intro v h h1 i hi
    by_cases h0 : v = 0 ∨ v = -1
    · exact dgt_sgn0 h0 i
    · obtain ⟨j, rfl⟩ : ∃ j, i = j + 1 := ⟨i - 1, by omega⟩
      have h2 := len2_step h h0
      rw [← dgt_half, ih (v / 2) (i64_half h) (by omega) j (by omega)]
      unfold sgn
      by_cases hv : v < 0
      · rw [if_pos hv, if_pos (by omega)]
      · rw [if_neg hv, if_neg (by omega)]
theorem dgt_turn : ∀ (n : Nat) (v : Int), I64 v → len2 v = n + 2 → dgt v (n + 1) ≠ dgt v n := by
  intro n
  induction n with
  | zero =>
    intro v h h1
    have h0 : ¬ (v = 0 ∨ v = -1) := fun h0 => by rw [len2_small h0] at h1; omega
    have h2 := len2_step h h0
    have h3 := len2_one (i64_half h) (by omega)
    have hv : v = 1 ∨ v = -2 := by omega
    rcases hv with rfl | rfl <;> decide
  | succ n ih =>
    intro v h h1
    have h0 : ¬ (v = 0 ∨ v = -1) := fun h0 => by rw [len2_small h0] at h1; omega
    have h2 := len2_step h h0
    rw [← dgt_half v (n + 1), ← dgt_half v n]
    exact ih (v / 2) (i64_half h) (by omega)
theorem digs_cons (v : Int) (n : Nat) : digs v (n + 1) = (dgt v 0 : Int) :: digs (v / 2) n := by
  unfold digs
  rw [List.range_succ_eq_map, List.map_cons, List.map_map]
  congr 1
  apply List.map_congr_left
  intro i _
  show ((dgt v (i + 1) : Nat) : Int) = _
  rw [dgt_half]
theorem tv_digs : ∀ (n : Nat) (v : Int), I64 v → len2 v ≤ n + 1 → tv (digs v (n + 1)) = v := by
  intro n
  induction n with
  | zero =>
    intro v h h1
    rcases len2_one h h1 with rfl | rfl <;> decide
  | succ n ih =>
    intro v h h1
    have h2 : len2 (v / 2) ≤ n + 1 := by
      by_cases h0 : v = 0 ∨ v = -1
      · rw [show v / 2 = v by omega, len2_small h0]; omega
      · have := len2_step h h0; omega
    have h3 := ih (v / 2) (i64_half h) h2
    rw [digs_cons, digs_cons] 
    rw [digs_cons] at h3
    rw [tv, h3, dgt_int]
    simp
    omega
theorem lt_congr {l : List Int} {i j : Nat} : ∀ t : Nat, (∀ s : Nat, s < t → dgt (rd l (s : Int)) i = dgt (rd l (s : Int)) j) → lt l t i = lt l t j := by
  intro t
  induction t with
  | zero => intro _; rfl
  | succ t ih => intro h; rw [lt, lt, ih (fun s hs => h s (by omega)), h t (by omega)]
theorem lt_dgt (l : List Int) (i : Nat) : ∀ t s : Nat, s < t → lt l t i / 2 ^ s % 2 = dgt (rd l (s : Int)) i := by
  intro t
  induction t with
  | zero => intro s hs; omega
  | succ t ih =>
    intro s hs
    rw [lt]
    by_cases e : s = t
    · subst e
      have h1 := lt_lt l s i
      have h2 := dgt_lt (rd l (s : Int)) i
      rw [Nat.add_mul_div_right _ _ (Nat.two_pow_pos s), Nat.div_eq_of_lt h1]
      omega
    · obtain ⟨d, rfl⟩ : ∃ d, t = s + 1 + d := ⟨t - s - 1, by omega⟩
      rw [show dgt (rd l ((s + 1 + d : Nat) : Int)) i * 2 ^ (s + 1 + d) = 2 ^ s * (2 * (dgt (rd l ((s + 1 + d : Nat) : Int)) i * 2 ^ d)) by
        rw [Nat.pow_add, Nat.pow_succ]; simp only [Nat.mul_comm, Nat.mul_left_comm, Nat.mul_assoc], Nat.add_mul_div_left _ _ (Nat.two_pow_pos s)]
      have := ih s (by omega)
      omega
theorem enc_rd (l : List Int) {n i : Nat} (h : i < n) : rd (enc l n) (i : Int) = (lt l l.length i : Int) := by
  rw [rd_nat, List.getD_eq_getElem?_getD, List.getElem?_eq_getElem (by simp [enc]; exact h)]
  simp [enc]
theorem enc_length (l : List Int) (n : Nat) : (enc l n).length = n := by simp [enc]
theorem trk_enc (l : List Int) (n : Nat) {t : Nat} (ht : t < l.length) : trk (enc l n) t = digs (rd l (t : Int)) n := by
  apply list_eq_of (by rw [trk_length, enc_length, digs_length])
  intro i hi
  rw [trk_length, enc_length] at hi
  rw [trk_rd _ _ (by rw [enc_length]; exact hi), enc_rd l hi, digs_rd _ hi]
  have h1 := lt_dgt l i l.length t ht
  have h2 := dgt_int ((lt l l.length i : Nat) : Int) t
  rw [h2, ← h1]
  push_cast
  rfl
theorem tup_enc {l : List Int} (h : AllI l) {n : Nat} (hn : longest l ≤ n) : tup (enc l n) l.length = l := by
  apply list_eq_of (tup_length _ _)
  intro t ht
  rw [tup_length] at ht
  have hb := longest_bd h
  obtain ⟨m, rfl⟩ : ∃ m, n = m + 1 := ⟨n - 1, by omega⟩
  rw [rd_nat, List.getD_eq_getElem?_getD, List.getElem?_eq_getElem (by rw [tup_length]; exact ht)]
  simp only [tup, List.getElem_map, List.getElem_range, Option.getD_some]
  rw [trk_enc l _ ht]
  have hm : rd l (t : Int) ∈ l := by rw [rd_nat, List.getD_eq_getElem?_getD, List.getElem?_eq_getElem ht]; exact List.getElem_mem ht
  exact tv_digs m _ (allI_rd h ht) (Nat.le_trans (longest_le h hm) hn)
theorem enc_letters (l : List Int) (n : Nat) : Letters (enc l n) l.length := by
  intro a ha
  simp only [enc, List.mem_map] at ha
  obtain ⟨j, _, rfl⟩ := ha
  have := lt_lt l l.length j
  omega
theorem decS_enc {l : List Int} (h : AllI l) (h6 : l.length ≤ 6) {n : Nat} (hn : longest l ≤ n) (h64 : n ≤ 64) : decS (enc l n) (l.length : Int) = (l, 0) := by
  have hb := longest_bd h
  unfold decS
  rw [if_neg (by omega), if_neg (fun e => by have := enc_length l n; rw [e] at this; simp at this; omega), if_neg (by rw [enc_length]; omega), Int.toNat_natCast, if_pos (enc_letters l n), tup_enc h hn]
theorem lt_stay {l : List Int} (h : AllI l) {i : Nat} (hi : longest l ≤ i + 1) : lt l l.length (i + 1) = lt l l.length i := by
  apply lt_congr
  intro s hs
  have hm : rd l (s : Int) ∈ l := by rw [rd_nat, List.getD_eq_getElem?_getD, List.getElem?_eq_getElem hs]; exact List.getElem_mem hs
  have h1 := Nat.le_trans (longest_le h hm) hi
  rw [dgt_sgn i _ (allI_rd h hs) h1 (i + 1) (by omega), dgt_sgn i _ (allI_rd h hs) h1 i (by omega)]
theorem longest_att (l : List Int) : longest l = 1 ∨ ∃ v ∈ l, len2 v = longest l := by
  unfold longest
  have key : ∀ (l : List Int) (m : Nat), l.foldl (fun n v => max n (len2 v)) m = m ∨ ∃ v ∈ l, len2 v = l.foldl (fun n v => max n (len2 v)) m := by
    intro l
    induction l with
    | nil => intro m; exact .inl rfl
    | cons a l ih =>
      intro m
      rcases ih (max m (len2 a)) with h | ⟨v, hv, h⟩
      · rw [List.foldl_cons, h]
        by_cases c : m ≤ len2 a
        · exact .inr ⟨a, List.mem_cons_self .., by omega⟩
        · exact .inl (by omega)
      · exact .inr ⟨v, List.mem_cons_of_mem _ hv, h⟩
  exact key l 1
theorem lt_turn {l : List Int} (h : AllI l) {i : Nat} (hi : longest l = i + 2) : lt l l.length (i + 1) ≠ lt l l.length i := by
  rcases longest_att l with h1 | ⟨v, hv, hl⟩
  · omega
  · obtain ⟨s, hs, rfl⟩ := List.mem_iff_getElem.1 hv
    have hr : rd l (s : Int) = l[s] := by rw [rd_nat, List.getD_eq_getElem?_getD, List.getElem?_eq_getElem hs]; rfl
    intro e
    have h1 := lt_dgt l (i + 1) l.length s hs
    have h2 := lt_dgt l i l.length s hs
    rw [e, h2, hr] at h1
    exact dgt_turn i _ (h _ hv) (by omega) h1.symm
theorem trimTo_enc {l : List Int} (h : AllI l) (n : Nat) : ∀ m, longest l ≤ m → m ≤ n → trimTo (enc l n) m = longest l := by
  have hb := longest_bd h
  intro m
  induction m with
  | zero => intro h1 _; omega
  | succ m ih =>
    intro h1 h2
    rw [trimTo]
    by_cases c : longest l = m + 1
    · rw [if_neg, c]
      rintro ⟨c1, c2⟩
      obtain ⟨j, rfl⟩ : ∃ j, m = j + 1 := ⟨m - 1, by omega⟩
      rw [Nat.add_sub_cancel, enc_rd l (by omega), enc_rd l (by omega)] at c2
      exact lt_turn h c (by omega)
    · rw [if_pos, ih (by omega) (by omega)]
      refine ⟨by omega, ?_⟩
      obtain ⟨j, rfl⟩ : ∃ j, m = j + 1 := ⟨m - 1, by omega⟩
      rw [Nat.add_sub_cancel, enc_rd l (by omega), enc_rd l (by omega), lt_stay h (by omega)]
theorem trimS_enc {l : List Int} (h : AllI l) {n : Nat} (hn : longest l ≤ n) : trimS (enc l n) = enc l (longest l) := by
  unfold trimS
  rw [enc_length, trimTo_enc h n n hn (Nat.le_refl _)]
  unfold enc
  rw [← List.map_take, List.take_range, Nat.min_eq_left hn]
theorem enc_more {l : List Int} (h : AllI l) {n : Nat} (hn : longest l ≤ n) : enc l n ++ [rd (enc l n) ((n - 1 : Nat) : Int)] = enc l (n + 1) := by
  have hb := longest_bd h
  obtain ⟨m, rfl⟩ : ∃ m, n = m + 1 := ⟨n - 1, by omega⟩
  rw [Nat.add_sub_cancel, enc_rd l (by omega), ← lt_stay h hn]
  unfold enc
  rw [List.range_succ (n := m + 1), List.map_append]
  rfl
theorem encS_ok {l : List Int} (h6 : l.length ≤ 6) {n : Nat} (hn : longest l ≤ n) (h64 : n ≤ 64) : encS l (n : Int) = (enc l n, 0) := by
  unfold encS
  rw [if_neg (by omega), if_neg (by omega), Int.toNat_natCast]
theorem WordBack : tabardlaw03_WordBack.Pure := by
  intro l x hm hs hw hx
  have hl : l.length ≤ 9000000000000000000 := by omega
  have hA := allI_of hw
  have hb := longest_bd hA
  refine Ev.rounds (g := fun k => tabardlaw03_WordBack.f k l x) ?_
  refine Ev.congr (fun k => by rw [tabardlaw03_WordBack.f]) ?_
  refine Ev.bind fixed_ev (Ev.cond rfl (Ev.ret rfl (Ev.cond (by simp; omega) ?_)))
  rw [List.nil_append]
  refine Ev.bind (shortest_ev hA hl) ?_
  by_cases c6 : l.length > 6
  · refine Ev.cond (by omega) ?_
    rw [show encS l (longest l : Int) = ([], 150) from if_pos c6]
    exact Ev.cond rfl (Ev.fin rfl)
  have h6 : l.length ≤ 6 := by omega
  refine Ev.ncond (by omega) (Ev.ret rfl (Ev.cond (by simp; omega) ?_))
  rw [List.nil_append, encS_ok h6 (Nat.le_refl _) hb.2]
  refine Ev.bind (longest_ev hA hl) (Ev.cond rfl ?_)
  rw [enc_length]
  refine Ev.cond rfl (Ev.ncond (by omega) ?_)
  rw [decide_eq_false (by omega)]
  refine Ev.step (fun k => by rw [tabardlaw03_WordBack.j0]) (Ev.ncond (by simp) ?_)
  refine Ev.ret rfl (Ev.cond (by simp; omega) ?_)
  rw [List.nil_append, w64 (by omega) (by omega)]
  refine Ev.bind (encode_ev hA hl _) ?_
  rw [show encS l ((longest l : Int) - 1) = ([], 2) by unfold encS; rw [if_neg c6, if_pos (by omega)]]
  refine Ev.cond rfl (Ev.ret rfl (Ev.cond (by simp; omega) ?_))
  rw [List.nil_append]
  have hq : 0 ≤ Int.tmod (IntKind.u64.wrap x) 8 ∧ Int.tmod (IntKind.u64.wrap x) 8 < 8 := by
    rw [u64_mod, Int.tmod_eq_emod_of_nonneg (by omega)]; omega
  generalize Int.tmod (IntKind.u64.wrap x) 8 = q at hq ⊢
  rw [w64 (x := q) (by omega) (by omega), w64 (by omega) (by omega)]
  obtain ⟨n, hn⟩ : ∃ n : Nat, mn 64 ((longest l : Int) + q) = (n : Int) := ⟨(mn 64 ((longest l : Int) + q)).toNat, by unfold mn; split <;> omega⟩
  have hn1 : longest l ≤ n ∧ n ≤ 64 := by unfold mn at hn; split at hn <;> omega
  rw [hn]
  clear hn hq
  refine Ev.bind (encode_ev hA hl _) ?_
  rw [encS_ok h6 hn1.1 hn1.2]
  refine Ev.cond rfl ?_
  rw [enc_length]
  refine Ev.cond rfl (Ev.ret rfl (Ev.cond (by simp; omega) ?_))
  rw [List.nil_append]
  refine Ev.bind (trim_ev (by rw [enc_length]; omega)) ?_
  rw [trimS_enc hA hn1.1]
  have h1 := same_ev (a := enc l (longest l)) (b := enc l (longest l)) (by rw [enc_length]; omega)
  rw [decide_eq_true rfl] at h1
  refine Ev.bind h1 ?_
  refine Ev.step (fun k => by rw [tabardlaw03_WordBack.j1]) (Ev.ncond (by simp) ?_)
  refine Ev.ret rfl (Ev.cond (by simp [enc_length]; omega) ?_)
  rw [List.nil_append]
  refine Ev.bind (decode_ev (by rw [enc_length]; omega) _) ?_
  rw [decS_enc hA h6 hn1.1 hn1.2]
  have h2 := tuples_ev (a := l) (b := l) hl
  rw [decide_eq_true rfl] at h2
  refine Ev.cond rfl (Ev.bind h2 ?_)
  refine Ev.step (fun k => by rw [tabardlaw03_WordBack.j2]) (Ev.ncond (by simp) ?_)
  refine Ev.ite (fun _ => Ev.fin rfl) (fun c => ?_)
  have hn64 : n + 1 ≤ 64 := by omega
  refine Ev.ret rfl (Ev.cond (by simp [enc_length]; omega) (Ev.ret rfl ?_))
  rw [w64 (by omega) (by omega), List.nil_append]
  refine Ev.cond (by omega) (Ev.cond (by rw [enc_length]; omega) (Ev.ret rfl (Ev.cond (by simp [enc_length]; omega) ?_)))
  rw [show (n : Int) - 1 = ((n - 1 : Nat) : Int) by omega, enc_more hA hn1.1]
  refine Ev.bind (decode_ev (by rw [enc_length]; omega) _) ?_
  rw [decS_enc hA h6 (by omega) hn64]
  exact Ev.cond rfl (Ev.bind h2 (Ev.fin rfl))
end Go.Proofs.Ytolacbnkebbjiaa.Pure
