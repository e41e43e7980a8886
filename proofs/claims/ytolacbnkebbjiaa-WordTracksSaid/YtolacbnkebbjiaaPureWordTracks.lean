/- The law WordTracks over lists alone: the tuple of a word is the numbers of its tracks, and its word is the word again; no condition beyond the statement's own. -/
import Derived.Test.YtolacbnkebbjiaaWordD
import Derived.Test.YtolacbnkebbjiaaX31
namespace Go.Proofs.Ytolacbnkebbjiaa.Pure
open Go.RowKit Go.Proofs.YtolacbnkebbjiaaW.PrintWords Go.Proofs.YtolacbnkebbjiaaW.PrintLast Go.Proofs.YtolacbnkebbjiaaW.PrintMore Go.Proofs.Ytolacbnkebbjiaa.X
set_option linter.unusedVariables false
theorem len2_tv {l : List Int} (h : Bits l) (hl : l ≠ []) (h64 : l.length ≤ 64) : len2 (tv l) ≤ l.length := by
  have hb := tv_bd h hl
  have hp : 0 < l.length := List.length_pos_iff.2 hl
  have : uabs (tv l) < 2 ^ (l.length - 1) := by
    unfold uabs
    generalize 2 ^ (l.length - 1) = P at hb ⊢
    split <;> omega
  have := bitLen_le (by omega) this
  unfold len2; omega
theorem dgt_tv {l : List Int} (h : Bits l) {i : Nat} (hi : i < l.length) : (dgt (tv l) i : Int) = rd l (i : Int) := by
  induction l generalizing i with
  | nil => simp at hi
  | cons d ds ih =>
    have hd := bits_head h
    cases ds with
    | nil =>
      have : i = 0 := by simp at hi; exact hi
      subst this
      rw [dgt_int, rd_nat, tv]; simp
      omega
    | cons e ds =>
      cases i with
      | zero =>
        rw [dgt_int, rd_nat, tv]; simp
        omega
      | succ i =>
        have h1 := ih (bits_tail h) (i := i) (by simpa using hi)
        rw [← dgt_half, tv, show (d + 2 * tv (e :: ds)) / 2 = tv (e :: ds) by omega, h1, rd_nat, rd_nat]
        rfl
theorem digs_tv {l : List Int} (h : Bits l) : digs (tv l) l.length = l := by
  apply list_eq_of (digs_length _ _)
  intro i hi
  rw [digs_length] at hi
  rw [digs_rd _ hi, dgt_tv h hi]
theorem longest_to {l : List Int} {n : Nat} (hn : 1 ≤ n) (h : ∀ v ∈ l, len2 v ≤ n) : longest l ≤ n := by
  unfold longest
  have key : ∀ (l : List Int) (m : Nat), m ≤ n → (∀ v ∈ l, len2 v ≤ n) → l.foldl (fun n v => max n (len2 v)) m ≤ n := by
    intro l
    induction l with
    | nil => intro m hm _; exact hm
    | cons a l ih => intro m hm h; exact ih _ (Nat.max_le.2 ⟨hm, h a (List.mem_cons_self ..)⟩) (fun v hv => h v (List.mem_cons_of_mem _ hv))
  exact key l 1 hn h
theorem tup_rd (w : List Int) {k t : Nat} (h : t < k) : rd (tup w k) (t : Int) = tv (trk w t) := by
  rw [rd_nat, List.getD_eq_getElem?_getD, List.getElem?_eq_getElem (by rw [tup_length]; exact h)]
  simp [tup]
theorem lt_tup {w : List Int} {k : Nat} (h : Letters w k) {i : Nat} (hi : i < w.length) : ∀ m, m ≤ k → (lt (tup w k) m i : Int) = rd w (i : Int) % ((2 ^ m : Nat) : Int) := by
  intro m
  induction m with
  | zero => intro _; simp [lt]
  | succ m ih =>
    intro hm
    have h1 := ih (by omega)
    have hd : (dgt (tv (trk w m)) i : Int) = rd w (i : Int) / ((2 ^ m : Nat) : Int) % 2 := by
      rw [dgt_tv (trk_bits w m) (by rw [trk_length]; exact hi), trk_rd w m hi, dgt_int]; simp
    rw [lt, tup_rd w (by omega), Nat.pow_succ]
    push_cast at h1 hd ⊢
    rw [h1, hd]
    obtain ⟨a, ha⟩ := Int.eq_ofNat_of_zero_le (rd_of_all (P := fun a => 0 ≤ a ∧ a < ((2 ^ k : Nat) : Int)) h hi).1
    rw [ha]
    have e := Nat.mod_mul (x := a) (a := 2 ^ m) (b := 2)
    rw [Nat.mul_comm (2 ^ m) (a / 2 ^ m % 2)] at e
    exact_mod_cast e.symm
theorem enc_tup {w : List Int} {k : Nat} (h : Letters w k) : enc (tup w k) w.length = w := by
  apply list_eq_of (by simp [enc])
  intro i hi
  have hi' : i < w.length := by simpa [enc] using hi
  have : rd (enc (tup w k) w.length) (i : Int) = (lt (tup w k) (tup w k).length i : Int) := by
    rw [rd_nat, List.getD_eq_getElem?_getD, List.getElem?_eq_getElem hi]
    simp [enc]
  have hr := rd_of_all (P := fun a => 0 ≤ a ∧ a < ((2 ^ k : Nat) : Int)) h hi'
  rw [this, tup_length, lt_tup h hi' k (Nat.le_refl _), Int.emod_eq_of_lt hr.1 hr.2]
theorem tup_allI {w : List Int} (hne : w ≠ []) (h64 : w.length ≤ 64) (k : Nat) : AllI (tup w k) := by
  intro v hv
  simp only [tup, List.mem_map] at hv
  obtain ⟨t, _, rfl⟩ := hv
  exact tv_i64 (trk_bits w t) (trk_ne hne t) (by rw [trk_length]; exact h64)
theorem trk_snoc (w : List Int) (t : Nat) {i : Nat} (hi : i < w.length) : (trk w t).take i ++ [(dgt (rd w (i : Int)) t : Int)] = (trk w t).take (i + 1) := by
  rw [List.take_add_one, List.getElem?_eq_getElem (by rw [trk_length]; exact hi)]
  congr 1
  rw [← trk_rd w t hi, rd_nat, List.getD_eq_getElem?_getD, List.getElem?_eq_getElem (by rw [trk_length]; exact hi)]
  rfl
theorem tracks_loop {w : List Int} {k : Nat} (hk : k ≤ 6) (hne : w ≠ []) (h64 : w.length ≤ 64) (hL : Letters w k) :
    ∀ (j t : Nat), t + j = k → Ev (fun n => tabardlaw03_WordTracks.l0 n w (tup w k) (k : Int) (t : Int)) true := by
  intro j
  induction j with
  | zero =>
    intro t ht
    refine Ev.step (fun n => by rw [tabardlaw03_WordTracks.l0]) (Ev.ncond (by omega) ?_)
    refine Ev.ret rfl (Ev.cond (by rw [tup_length]; simp; omega) ?_)
    rw [List.nil_append]
    refine Ev.bind (encode_ev (tup_allI hne h64 k) (by rw [tup_length]; omega) _) ?_
    have hlo : longest (tup w k) ≤ w.length := longest_to (List.length_pos_iff.2 hne) (fun v hv => by
      simp only [tup, List.mem_map] at hv
      obtain ⟨t, _, rfl⟩ := hv
      have := len2_tv (trk_bits w t) (trk_ne hne t) (by rw [trk_length]; exact h64)
      rwa [trk_length] at this)
    have he : encS (tup w k) (w.length : Int) = (w, 0) := by
      unfold encS
      rw [if_neg (by rw [tup_length]; omega), if_neg (by omega), Int.toNat_natCast, enc_tup hL]
    rw [he]
    have h1 := same_ev (a := w) (b := w) (by omega)
    rw [decide_eq_true rfl] at h1
    exact Ev.cond rfl (Ev.bind h1 (Ev.fin rfl))
  | succ j ih =>
    intro t ht
    refine Ev.step (fun n => by rw [tabardlaw03_WordTracks.l0]) (Ev.cond (by omega) ?_)
    have hi64 := letters_i64 hk hL
    have inner : ∀ (m i : Nat), i + m = w.length → Ev (fun n => tabardlaw03_WordTracks.l1 n w (tup w k) (t : Int) ((trk w t).take i) (k : Int) (t : Int) w (w.length : Int) (i : Int)) true := by
      intro m
      induction m with
      | zero =>
        intro i hi
        rw [List.take_of_length_le (by rw [trk_length]; omega)]
        refine Ev.step (fun n => by rw [tabardlaw03_WordTracks.l1]) (Ev.ncond (by omega) ?_)
        refine Ev.bind (number_ev (by rw [trk_length]; omega)) (Ev.cond (by omega) (Ev.cond (by rw [tup_length]; omega) ?_))
        rw [numS_trk hne h64, tup_rd w (by omega)]
        refine Ev.bind (digits_ev (tv_i64 (trk_bits w t) (trk_ne hne t) (by rw [trk_length]; exact h64)) _) ?_
        have hd : digS (tv (trk w t)) (w.length : Int) = (trk w t, 0) := by
          have h1 := len2_tv (trk_bits w t) (trk_ne hne t) (by rw [trk_length]; exact h64)
          have h2 := digs_tv (trk_bits w t)
          rw [trk_length] at h1 h2
          unfold digS
          rw [if_neg (by omega), Int.toNat_natCast, h2]
        rw [hd]
        have h1 := same_ev (a := trk w t) (b := trk w t) (by rw [trk_length]; omega)
        rw [decide_eq_true rfl] at h1
        refine Ev.cond rfl (Ev.cond rfl (Ev.cond rfl (Ev.bind h1 (Ev.cond rfl ?_))))
        rw [w64 (by omega) (by omega)]
        exact ih (t + 1) (by omega)
      | succ m ihm =>
        intro i hi
        refine Ev.step (fun n => by rw [tabardlaw03_WordTracks.l1]) (Ev.cond (by omega) (Ev.cond (by omega) (Ev.cond (by omega) ?_)))
        have ha := rd_of_all (P := fun a => 0 ≤ a ∧ a < ((2 ^ k : Nat) : Int)) hL (show i < w.length by omega)
        refine Ev.ret (digit_eq (allI_rd hi64 (by omega)) ha.1 (by omega)) (Ev.cond (by rw [List.length_take, trk_length]; omega) ?_)
        rw [trk_snoc w t (by omega), w64 (by omega) (by omega)]
        exact ihm (i + 1) (by omega)
    have := inner w.length 0 (by omega)
    rw [List.take_zero] at this
    exact this
theorem WordTracks : tabardlaw03_WordTracks.Pure := by
  intro w n hm hs hw hn
  have hl : w.length ≤ 9000000000000000000 := by omega
  refine Ev.rounds (g := fun k => tabardlaw03_WordTracks.f k w n) ?_
  refine Ev.congr (fun k => by rw [tabardlaw03_WordTracks.f]) ?_
  refine Ev.bind fixed_ev (Ev.cond rfl (Ev.ret rfl (Ev.cond (by simp; omega) ?_)))
  rw [List.nil_append]
  refine Ev.bind (decode_ev hl n) ?_
  by_cases c1 : n < 0 ∨ n > 6
  · rw [show decS w n = ([], 150) from if_pos c1]
    exact Ev.ncond (by simp) (Ev.fin rfl)
  by_cases c2 : w = []
  · rw [show decS w n = ([], 3) by unfold decS; rw [if_neg c1, if_pos c2]]
    exact Ev.ncond (by simp) (Ev.fin rfl)
  by_cases c3 : w.length > 64
  · rw [show decS w n = ([], 31) by unfold decS; rw [if_neg c1, if_neg c2, if_pos c3]]
    exact Ev.ncond (by simp) (Ev.fin rfl)
  by_cases c4 : Letters w n.toNat
  · rw [show decS w n = (tup w n.toNat, 0) by unfold decS; rw [if_neg c1, if_neg c2, if_neg c3, if_pos c4]]
    refine Ev.cond rfl ?_
    rw [tup_length]
    refine Ev.cond (by omega) ?_
    exact tracks_loop (by omega) c2 (by omega) c4 n.toNat 0 (by omega)
  · rw [show decS w n = ([], 30) by unfold decS; rw [if_neg c1, if_neg c2, if_neg c3, if_neg c4]]
    exact Ev.ncond (by simp) (Ev.fin rfl)
end Go.Proofs.Ytolacbnkebbjiaa.Pure
