/- What the functions of this seat compute, and that the program's calls come to just that: written by this session's own program out of the translation; no condition. -/
import Derived.Test.YtolacbnkebbjiaaX0
namespace Go.Proofs.Ytolacbnkebbjiaa.X
open Go.RowKit Go.Proofs.YtolacbnkebbjiaaW.PrintWords Go.Proofs.YtolacbnkebbjiaaW.PrintLast Go.Proofs.YtolacbnkebbjiaaW.PrintMore
attribute [local go_sem] max2_int min2_int max_two min_two max_three min_three max_four min_four   -- for this text's walks alone
set_option linter.unusedVariables false
set_option linter.unusedSimpArgs false

/-! ### slices_Clone_int_int: function 42 -/
def slices_Clone_int_int.f (l0 : List (Int)) : Option (List (Int)) := if l0.length < 17592186044416 then some l0 else none
set_option maxHeartbeats 8000000 in
set_option maxRecDepth 100000 in
theorem slices_Clone_int_int.calls (A0 : Option Addr) (c0 : Nat) (l0 : List (Int)) (r : List (Int)) (w : World) (hr0 : Kd.C (Kd.int .i64) w A0 l0.length l0) (hc0 : l0.length ≤ c0) (h : slices_Clone_int_int.f l0 = some r) :
  Calls Try.prog 42 #[.slice A0 l0.length c0] w fun e w' => ∃ v0_ : Value, e = .returned (v0_) ∧ Kd.R (Kd.int .i64) 3 w' w.heap.size (fun _ => True) v0_ r ∧ Below w.heap.size w w' := by
 have HB := Aside0.mk (Below.refl w.heap.size w)
 have hlim : l0.length < 17592186044416 ∧ l0 = r := by
  unfold slices_Clone_int_int.f at h
  by_cases hc : l0.length < 17592186044416
  ·rw [if_pos hc] at h; exact ⟨hc, Option.some.inj h⟩
  ·rw [if_neg hc] at h; cases h
 obtain ⟨hlim, rfl⟩ := hlim
 have HL := Aside0.mk hlim
 have HR0 := Aside0.mk hr0
 clear hr0 hlim h
 cases A0 with
 | none =>
  have h0 : l0.length = 0 := by
   rcases Nat.eq_zero_or_pos l0.length with h | h
   ·exact h
   ·obtain ⟨ad, h1, _⟩ := HR0.out.2.2 h
    cases h1
  obtain rfl := List.eq_nil_of_length_eq_zero h0
  clear h0
  have hn := fun (W : World) (n c : Nat) => Lib.run_eql_slice_nil (P := Try.prog) W 23 3 none n c 0 0 Try.underlying23
  go_enter Try.func42, Try.ntmps42
  go_wp2
  go_ret
  exact ⟨_, rfl, Kd.R_nil _ _ _ _ _, HB.out⟩
 | some ad =>
  have hn := fun (W : World) (n c : Nat) => Lib.run_eql_slice_nil (P := Try.prog) W 23 3 (some ad) n c 0 0 Try.underlying23
  go_enter Try.func42, Try.ntmps42
  go_wp2_with (first
   | ((with_reducible refine gate_dst (N := 5) rfl ?_); refine Kd.R_lit (Kd.int .i64) _ 3 ?hg (N := 5) ?hd (xs := ([] : List (Int))) (inner := []) (ok := fun _ => True) (okp := fun _ => True) ?hr ?hp (fun _ hk => hk) trivial (Below.refl _ _) (Nat.le_refl _) (by simp) ?_; (case hd => rfl); (case hg => rfl); (case hr => first | (go_simp; done) | (go_simp; rfl)); (case hp => exact (Reps.none _ _)); intro v1 w1 ho1 hb hg_ hnew_; clear hg_ hnew_; have n0_ := Aside0.mk (Kd.R_lower ho1 (below_size HB.out)); have n1_ := Aside0.mk (below_step HB.out hb); clear HB; have HO1 := n0_; have HB := n1_; clear n0_ n1_; clear hb ho1)
   | ((with_reducible refine gate_builtin (b := .append) (xs := #[.tmp 5, .tmp 6]) rfl ?_); at_builtin; refine Kd.R_append_rows (Kd.int .i64) (w0 := w) w.heap.size rfl (.tmp 5) (.tmp 6) 23 3 (.int .i64 0) 8 rfl Try.underlying23 info3 rfl (by decide) (by omega) v1 [] l0 _ _ _ (fun _ => True) (fun _ => False) rfl rfl ?aO ?aR (fun _ _ h => h) (fun _ h => h.elim) ?aF ?aB ?aS ?aL ?_; (case aR => exact (Kd.C_below HR0.out HB.out)); (case aB => exact HB.out); (case aF => exact (fun _ _ => trivial)); (case aO => exact HO1.out); (case aS => exact (below_size HB.out)); (case aL => have := HL.out; simp only [List.length_nil]; omega); intro v2 w2 ho hb hg hat; have n0_ := Aside0.mk (hb); have n1_ := Aside0.mk (ho); clear HB HO1; have HB := n0_; have HO2 := n1_; clear n0_ n1_; clear ho hb hg hat))
  go_ret
  exact ⟨_, rfl, HO2.out, HB.out⟩

/-! ### word_Trim: function 28 -/
def word_Trim.l0 : Nat → List Int → Int → Option (List Int)
 | 0, _, _ => none
 | k + 1, x0, x3 => if x3 > 1 then (if 0 ≤ (wrap64 (x3 - 1)) then (if (wrap64 (x3 - 1)) < (x0.length : Int) then (if 0 ≤ (wrap64 (x3 - 2)) then (if (wrap64 (x3 - 2)) < (x0.length : Int) then (if (rd x0 (wrap64 (x3 - 1))) = (rd x0 (wrap64 (x3 - 2))) then (word_Trim.l0 k x0 (wrap64 (x3 - 1))) else (if 0 ≤ x3 then (if x3 ≤ (x0.length : Int) then ((slices_Clone_int_int.f (x0.take (x3 : Int).toNat)).bind fun t624 => (some t624)) else (none)) else (none))) else (none)) else (none)) else (none)) else (none)) else (if 0 ≤ x3 then (if x3 ≤ (x0.length : Int) then ((slices_Clone_int_int.f (x0.take (x3 : Int).toNat)).bind fun t628 => (some t628)) else (none)) else (none))
def word_Trim.f (k : Nat) (l0 : List Int) : Option (List Int) := word_Trim.l0 k l0 (l0.length : Int)
theorem word_Trim.mono_l : ∀ k, (∀ y0 y1, LeO (word_Trim.l0 k y0 y1) (word_Trim.l0 (k + 1) y0 y1))
 | 0 => fun _ _ r h => by simp [word_Trim.l0] at h
 | k + 1 => by
  have ih0 := word_Trim.mono_l k
  ·intro y0 y1
   unfold word_Trim.l0
   repeat' first
   | (with_reducible exact ih0 _ _)
   | (with_reducible exact LeO.refl _)
   | (with_reducible exact LeO.none _)
   | (with_reducible refine LeO.ite ?_ ?_)
   | (with_reducible refine LeO.bind ?_ (fun _ => ?_))
   | exact ih0 _ _
   | exact LeO.none _
   | refine LeO.ite ?_ ?_
   | refine LeO.bind ?_ (fun _ => ?_)
theorem word_Trim.mono : ∀ a0 k, LeO (word_Trim.f k a0) (word_Trim.f (k + 1) a0) := by
 intro a0 k
 have ih0 := word_Trim.mono_l k
 unfold word_Trim.f
 repeat' first
   | (with_reducible exact ih0 _ _)
   | (with_reducible exact LeO.refl _)
   | (with_reducible exact LeO.none _)
   | (with_reducible refine LeO.ite ?_ ?_)
   | (with_reducible refine LeO.bind ?_ (fun _ => ?_))
   | exact ih0 _ _
   | exact LeO.none _
   | refine LeO.ite ?_ ?_
   | refine LeO.bind ?_ (fun _ => ?_)
set_option maxHeartbeats 8000000 in
set_option maxRecDepth 100000 in
theorem word_Trim.calls (k : Nat) (A0 : Option Addr) (c0 : Nat) (l0 : List Int) (r : List Int) (w : World) (hr0 : Kd.C (Kd.int .i64) w A0 l0.length l0) (hc0 : l0.length ≤ c0) (h : word_Trim.f k l0 = some r) :
  Calls Try.prog 28 #[.slice A0 l0.length c0] w fun e w' => ∃ v0_ : Value, e = .returned (v0_) ∧ Kd.R (Kd.int .i64) 3 w' w.heap.size (fun _ => True) v0_ r ∧ Below w.heap.size w w' := by
 have HR0 := Aside0.mk hr0
 have HC0 := Aside0.mk hc0
 clear hr0 hc0
 have HB := Aside0.mk (Below.refl w.heap.size w)
 have H : (word_Trim.l0 k l0 (l0.length : Int)) = some r := h
 clear h
 have H' := Aside0.mk H
 clear H
 go_enter Try.func28, Try.ntmps28
 go_wp2
 repeat (go_quiet (fail); try go_wp2)
 go_loopg [3] k (fun kq v3 w' => ∃ (x3_1 : Int), v3 = .int .i64 x3_1 ∧ Aside0 (word_Trim.l0 kq l0 x3_1 = some r) ∧ Aside0 (kq ≤ k) ∧ Aside0 (Below w.heap.size w w'))
 case atStart => exact ⟨((l0.length : Int)), (by first | rfl | (simp; done) | (simp [*]; done)), H', ⟨Nat.le_refl _⟩, ⟨bO HB.out⟩⟩
 case round =>
  clear H'
  obtain ⟨x3_1, rfl, HA, HK1, HB⟩ := hrel
  cases gk with
  | zero => exact absurd HA.out (by simp [word_Trim.l0])
  | succ k1 =>
   have H := HA.out
   clear HA
   simp only [word_Trim.l0] at H
   by_cases c2 : x3_1 > 1
   ·rw [if_pos c2] at H
    have c2b0 : decide (1 < x3_1) = true := decide_eq_true c2
    clear c2
    obtain ⟨ji3, hji3⟩ : ∃ j_ : Int, (wrap64 (x3_1 - 1)) = j_ := ⟨_, rfl⟩
    replace H : (if 0 ≤ (ji3) then (if (ji3) < (l0.length : Int) then (if 0 ≤ (wrap64 (x3_1 - 2)) then (if (wrap64 (x3_1 - 2)) < (l0.length : Int) then (if (rd l0 (ji3)) = (rd l0 (wrap64 (x3_1 - 2))) then (word_Trim.l0 k1 l0 ji3) else (if 0 ≤ x3_1 then (if x3_1 ≤ (l0.length : Int) then ((slices_Clone_int_int.f (l0.take (x3_1 : Int).toNat)).bind fun t624 => (some t624)) else (none)) else (none))) else (none)) else (none)) else (none)) else (none)) = some r := by first | (rw [hji3] at H; exact H) | (simp only [hji3] at H ⊢; exact H)
    have hji3w : (IntKind.i64.wrap (x3_1 - 1)) = ji3 := (i64_w _).trans hji3
    by_cases c4 : 0 ≤ (ji3)
    ·rw [if_pos c4] at H
     have c4b0 : decide (0 ≤ (ji3)) = true := decide_eq_true c4
     clear c4
     by_cases c5 : (ji3) < (l0.length : Int)
     ·rw [if_pos c5] at H
      have c5b0 : decide ((ji3) < (l0.length : Int)) = true := decide_eq_true c5
      clear c5
      obtain ⟨ji6, hji6⟩ : ∃ j_ : Int, (wrap64 (x3_1 - 2)) = j_ := ⟨_, rfl⟩
      replace H : (if 0 ≤ (ji6) then (if (ji6) < (l0.length : Int) then (if (rd l0 (ji3)) = (rd l0 (ji6)) then (word_Trim.l0 k1 l0 ji3) else (if 0 ≤ x3_1 then (if x3_1 ≤ (l0.length : Int) then ((slices_Clone_int_int.f (l0.take (x3_1 : Int).toNat)).bind fun t624 => (some t624)) else (none)) else (none))) else (none)) else (none)) = some r := by first | (rw [hji6] at H; exact H) | (simp only [hji6] at H ⊢; exact H)
      have hji6w : (IntKind.i64.wrap (x3_1 - 2)) = ji6 := (i64_w _).trans hji6
      by_cases c7 : 0 ≤ (ji6)
      ·rw [if_pos c7] at H
       have c7b0 : decide (0 ≤ (ji6)) = true := decide_eq_true c7
       clear c7
       by_cases c8 : (ji6) < (l0.length : Int)
       ·rw [if_pos c8] at H
        have c8b0 : decide ((ji6) < (l0.length : Int)) = true := decide_eq_true c8
        clear c8
        by_cases c9 : (rd l0 (ji3)) = (rd l0 (ji6))
        ·rw [if_pos c9] at H
         have c9b0 : ((rd l0 (ji3)) == (rd l0 (ji6))) = true := beq_iff_eq.mpr c9
         have c9b1 : ((rd l0 (ji3)) != (rd l0 (ji6))) = false := bne_eq_false_iff_eq.mpr c9
         clear c9
         have H' := Aside0.mk H
         clear H
         have p621 : 0 ≤ ((ji3) : Int) := of_decide_eq_true aO
         have q621 : (ji3) < (l0.length : Int) := of_decide_eq_true aO
         obtain ⟨ad621, e621, hx621_0⟩ := Kd.at_int HR0.out (ji3) p621 q621
         cases e621
         replace hx621_0 := (HB.out.cell (World.block_lt_of_cell? w _ hx621_0)).trans hx621_0
         replace p621 := eq_true p621
         replace q621 := eq_true q621
         have p622 : 0 ≤ ((ji6) : Int) := of_decide_eq_true aO
         have q622 : (ji6) < (l0.length : Int) := of_decide_eq_true aO
         obtain ⟨ad622, e622, hx622_0⟩ := Kd.at_int HR0.out (ji6) p622 q622
         obtain rfl : ad621 = ad622 := (by injection e622)
         replace hx622_0 := (HB.out.cell (World.block_lt_of_cell? w _ hx622_0)).trans hx622_0
         replace p622 := eq_true p622
         replace q622 := eq_true q622
         go_wp2
         repeat (go_quiet (fail); try go_wp2)
         go_roundg k1
         case measure => have := HK1.out; omega
         case rel => exact ⟨(ji3), (by first | rfl | (simp; done) | (simp only [← hji3] <;> (first | rfl | simp)) | (simp [*]; done)), H', ⟨by have := HK1.out; omega⟩, ⟨bO HB.out⟩⟩
        ·rw [if_neg c9] at H
         have c9b0 : ((rd l0 (ji3)) == (rd l0 (ji6))) = false := beq_eq_false_iff_ne.mpr c9
         have c9b1 : ((rd l0 (ji3)) != (rd l0 (ji6))) = true := bne_iff_ne.mpr c9
         by_cases c10 : 0 ≤ x3_1
         ·rw [if_pos c10] at H
          have c10b0 := eq_true c10
          have c10b1 : decide (0 ≤ x3_1) = true := decide_eq_true c10
          clear c10
          by_cases c11 : x3_1 ≤ (l0.length : Int)
          ·rw [if_pos c11] at H
           have c11b0 := eq_true c11
           have c11b1 : decide (x3_1 ≤ (l0.length : Int)) = true := decide_eq_true c11
           clear c11
           replace H := Option.bind_eq_some_iff.mp H
           obtain ⟨t624, A120, H⟩ := H
           replace H : (some t624) = some r := H
           have A12 := Aside0.mk A120
           clear A120
           obtain rfl := Option.some.inj H
           have p621 : 0 ≤ ((ji3) : Int) := of_decide_eq_true aO
           have q621 : (ji3) < (l0.length : Int) := of_decide_eq_true aO
           obtain ⟨ad621, e621, hx621_0⟩ := Kd.at_int HR0.out (ji3) p621 q621
           cases e621
           replace hx621_0 := (HB.out.cell (World.block_lt_of_cell? w _ hx621_0)).trans hx621_0
           replace p621 := eq_true p621
           replace q621 := eq_true q621
           have p622 : 0 ≤ ((ji6) : Int) := of_decide_eq_true aO
           have q622 : (ji6) < (l0.length : Int) := of_decide_eq_true aO
           obtain ⟨ad622, e622, hx622_0⟩ := Kd.at_int HR0.out (ji6) p622 q622
           obtain rfl : ad621 = ad622 := (by injection e622)
           replace hx622_0 := (HB.out.cell (World.block_lt_of_cell? w _ hx622_0)).trans hx622_0
           replace p622 := eq_true p622
           replace q622 := eq_true q622
           obtain ⟨i013, hi013, _, hsz13, _⟩ := info_parts info3
           obtain ⟨hcut13, hA13, hC13⟩ := print_take_of (P := Try.prog) (Value.int .i64) 0 23 3 .i64 Try.underlying23 hi013 hsz13 (some ad621) c0 l0 x3_1 (of_decide_eq_true aO) (of_decide_eq_true aO) HC0.out
           have HR623 := Aside0.mk (Kd.C_of_reads (h1 := fun _ => rfl) (hA13 _ (Kd.reads_of_C HR0.out)))
           have HC623 := Aside0.mk hC13
           clear hA13 hC13 hi013 hsz13
           go_wp2_with (first | (go_at_call 42; refine calls_of_args (args' := #[.slice (some ad621) (l0.take (x3_1 : Int).toNat).length c0]) (by first | (rw [show (l0.take (x3_1 : Int).toNat).length = x3_1.toNat from (by rw [List.length_take]; have h_ : (x3_1 : Int) ≤ (l0.length : Int) := of_decide_eq_true aO; omega)] <;> rfl) |  rfl) ?_; (with_reducible refine (slices_Clone_int_int.calls _ _ (l0.take (x3_1 : Int).toNat) t624 _ ?side1 ?side2 A12.out).mono ?_); (case side1 => exact cO (Kd.C_below HR623.out HB.out)); (case side2 => exact HC623.out); rintro e w14 ⟨v625, rfl, ho0, hb⟩; have n0_ := Aside0.mk (Kd.R_lower ho0 (below_size (bO HB.out))); have n1_ := Aside0.mk (below_step (bO HB.out) hb); clear HB; have HO626 := n0_; have HB := n1_; clear n0_ n1_; (try clear hb); (try clear hb2); (try clear hk); (try clear hi); (try clear ho0)))
           repeat (go_quiet (first | (go_at_call 42; refine calls_of_args (args' := #[.slice (some ad621) (l0.take (x3_1 : Int).toNat).length c0]) (by first | (rw [show (l0.take (x3_1 : Int).toNat).length = x3_1.toNat from (by rw [List.length_take]; have h_ : (x3_1 : Int) ≤ (l0.length : Int) := of_decide_eq_true aO; omega)] <;> rfl) |  rfl) ?_; (with_reducible refine (slices_Clone_int_int.calls _ _ (l0.take (x3_1 : Int).toNat) t624 _ ?side1 ?side2 A12.out).mono ?_); (case side1 => exact cO (Kd.C_below HR623.out HB.out)); (case side2 => exact HC623.out); rintro e w14 ⟨v625, rfl, ho0, hb⟩; have n0_ := Aside0.mk (Kd.R_lower ho0 (below_size (bO HB.out))); have n1_ := Aside0.mk (below_step (bO HB.out) hb); clear HB; have HO626 := n0_; have HB := n1_; clear n0_ n1_; (try clear hb); (try clear hb2); (try clear hk); (try clear hi); (try clear ho0))); try go_wp2_with (first | (go_at_call 42; refine calls_of_args (args' := #[.slice (some ad621) (l0.take (x3_1 : Int).toNat).length c0]) (by first | (rw [show (l0.take (x3_1 : Int).toNat).length = x3_1.toNat from (by rw [List.length_take]; have h_ : (x3_1 : Int) ≤ (l0.length : Int) := of_decide_eq_true aO; omega)] <;> rfl) |  rfl) ?_; (with_reducible refine (slices_Clone_int_int.calls _ _ (l0.take (x3_1 : Int).toNat) t624 _ ?side1 ?side2 A12.out).mono ?_); (case side1 => exact cO (Kd.C_below HR623.out HB.out)); (case side2 => exact HC623.out); rintro e w14 ⟨v625, rfl, ho0, hb⟩; have n0_ := Aside0.mk (Kd.R_lower ho0 (below_size (bO HB.out))); have n1_ := Aside0.mk (below_step (bO HB.out) hb); clear HB; have HO626 := n0_; have HB := n1_; clear n0_ n1_; (try clear hb); (try clear hb2); (try clear hk); (try clear hi); (try clear ho0))))
           go_ret
           exact ⟨_, by first | rfl | (simp [errW_none, errW_some] <;> rfl) | (simp only [← hji3, ← hji6]; first | rfl | (simp [errW_none, errW_some] <;> rfl)) | (simp [*, errW_none, errW_some] <;> rfl), rO HO626.out, bO HB.out⟩
          ·rw [if_neg c11] at H
           exact absurd H (by simp)
         ·rw [if_neg c10] at H
          exact absurd H (by simp)
       ·rw [if_neg c8] at H
        exact absurd H (by simp)
      ·rw [if_neg c7] at H
       exact absurd H (by simp)
     ·rw [if_neg c5] at H
      exact absurd H (by simp)
    ·rw [if_neg c4] at H
     exact absurd H (by simp)
   ·rw [if_neg c2] at H
    have c2b0 : decide (1 < x3_1) = false := decide_eq_false c2
    clear c2
    by_cases c15 : 0 ≤ x3_1
    ·rw [if_pos c15] at H
     have c15b0 := eq_true c15
     have c15b1 : decide (0 ≤ x3_1) = true := decide_eq_true c15
     clear c15
     by_cases c16 : x3_1 ≤ (l0.length : Int)
     ·rw [if_pos c16] at H
      have c16b0 := eq_true c16
      have c16b1 : decide (x3_1 ≤ (l0.length : Int)) = true := decide_eq_true c16
      clear c16
      replace H := Option.bind_eq_some_iff.mp H
      obtain ⟨t628, A170, H⟩ := H
      replace H : (some t628) = some r := H
      have A17 := Aside0.mk A170
      clear A170
      obtain rfl := Option.some.inj H
      obtain ⟨i018, hi018, _, hsz18, _⟩ := info_parts info3
      obtain ⟨hcut18, hA18, hC18⟩ := print_take_of (P := Try.prog) (Value.int .i64) 0 23 3 .i64 Try.underlying23 hi018 hsz18 A0 c0 l0 x3_1 (of_decide_eq_true aO) (of_decide_eq_true aO) HC0.out
      have HR627 := Aside0.mk (Kd.C_of_reads (h1 := fun _ => rfl) (hA18 _ (Kd.reads_of_C HR0.out)))
      have HC627 := Aside0.mk hC18
      clear hA18 hC18 hi018 hsz18
      go_wp2_with (first | (go_at_call 42; refine calls_of_args (args' := #[.slice A0 (l0.take (x3_1 : Int).toNat).length c0]) (by first | (rw [show (l0.take (x3_1 : Int).toNat).length = x3_1.toNat from (by rw [List.length_take]; have h_ : (x3_1 : Int) ≤ (l0.length : Int) := of_decide_eq_true aO; omega)] <;> rfl) |  rfl) ?_; (with_reducible refine (slices_Clone_int_int.calls _ _ (l0.take (x3_1 : Int).toNat) t628 _ ?side1 ?side2 A17.out).mono ?_); (case side1 => exact cO (Kd.C_below HR627.out HB.out)); (case side2 => exact HC627.out); rintro e w19 ⟨v629, rfl, ho0, hb⟩; have n0_ := Aside0.mk (Kd.R_lower ho0 (below_size (bO HB.out))); have n1_ := Aside0.mk (below_step (bO HB.out) hb); clear HB; have HO630 := n0_; have HB := n1_; clear n0_ n1_; (try clear hb); (try clear hb2); (try clear hk); (try clear hi); (try clear ho0)))
      repeat (go_quiet (first | (go_at_call 42; refine calls_of_args (args' := #[.slice A0 (l0.take (x3_1 : Int).toNat).length c0]) (by first | (rw [show (l0.take (x3_1 : Int).toNat).length = x3_1.toNat from (by rw [List.length_take]; have h_ : (x3_1 : Int) ≤ (l0.length : Int) := of_decide_eq_true aO; omega)] <;> rfl) |  rfl) ?_; (with_reducible refine (slices_Clone_int_int.calls _ _ (l0.take (x3_1 : Int).toNat) t628 _ ?side1 ?side2 A17.out).mono ?_); (case side1 => exact cO (Kd.C_below HR627.out HB.out)); (case side2 => exact HC627.out); rintro e w19 ⟨v629, rfl, ho0, hb⟩; have n0_ := Aside0.mk (Kd.R_lower ho0 (below_size (bO HB.out))); have n1_ := Aside0.mk (below_step (bO HB.out) hb); clear HB; have HO630 := n0_; have HB := n1_; clear n0_ n1_; (try clear hb); (try clear hb2); (try clear hk); (try clear hi); (try clear ho0))); try go_wp2_with (first | (go_at_call 42; refine calls_of_args (args' := #[.slice A0 (l0.take (x3_1 : Int).toNat).length c0]) (by first | (rw [show (l0.take (x3_1 : Int).toNat).length = x3_1.toNat from (by rw [List.length_take]; have h_ : (x3_1 : Int) ≤ (l0.length : Int) := of_decide_eq_true aO; omega)] <;> rfl) |  rfl) ?_; (with_reducible refine (slices_Clone_int_int.calls _ _ (l0.take (x3_1 : Int).toNat) t628 _ ?side1 ?side2 A17.out).mono ?_); (case side1 => exact cO (Kd.C_below HR627.out HB.out)); (case side2 => exact HC627.out); rintro e w19 ⟨v629, rfl, ho0, hb⟩; have n0_ := Aside0.mk (Kd.R_lower ho0 (below_size (bO HB.out))); have n1_ := Aside0.mk (below_step (bO HB.out) hb); clear HB; have HO630 := n0_; have HB := n1_; clear n0_ n1_; (try clear hb); (try clear hb2); (try clear hk); (try clear hi); (try clear ho0))))
      go_ret
      exact ⟨_, by first | rfl | (simp [errW_none, errW_some] <;> rfl) | (simp [*, errW_none, errW_some] <;> rfl), rO HO630.out, bO HB.out⟩
     ·rw [if_neg c16] at H
      exact absurd H (by simp)
    ·rw [if_neg c15] at H
     exact absurd H (by simp)

end Go.Proofs.Ytolacbnkebbjiaa.X
