/- What the functions of this seat compute, and that the program's calls come to just that: written by this session's own program out of the translation; no condition. -/
import Derived.Test.YtghfclgcgecgdaaX0
import Derived.Test.YtghfclgcgecgdaaX1
import Derived.Test.YtghfclgcgecgdaaX8
namespace Go.Proofs.Ytghfclgcgecgdaa.X
open Go.RowKit Go.Proofs.YtghfclgcgecgdaaW.PrintWords Go.Proofs.YtghfclgcgecgdaaW.PrintLast Go.Proofs.YtghfclgcgecgdaaW.PrintMore
attribute [local go_sem] max2_int min2_int max_two min_two max_three min_three max_four min_four
set_option linter.unusedVariables false
set_option linter.unusedSimpArgs false

/-! ### table_rowOf: function 48 -/
def table_rowOf.f (l0_0 : List ByteArray) (l0_1 : List Bool) (l0_2 : List Int) (l0_3 : List (S58)) (a1 : Int) : Option ((List (S58))) := if 0 ≤ a1 then (if a1 < (l0_2.length : Int) then (if 0 ≤ (wrap64 (a1 + 1)) then (if (wrap64 (a1 + 1)) < (l0_2.length : Int) then (if 0 ≤ (rd l0_2 a1) then (if (rd l0_2 a1) ≤ (rd l0_2 (wrap64 (a1 + 1))) then (if (rd l0_2 (wrap64 (a1 + 1))) ≤ (l0_3.length : Int) then (some ((l0_3.take ((rd l0_2 (wrap64 (a1 + 1))) : Int).toNat).drop ((rd l0_2 a1) : Int).toNat)) else (none)) else (none)) else (none)) else (none)) else (none)) else (none)) else (none)
set_option maxHeartbeats 8000000 in
set_option maxRecDepth 100000 in
theorem table_rowOf.calls (A0_0 : Option Addr) (c0_0 : Nat) (l0_0 : List ByteArray) (A0_1 : Option Addr) (c0_1 : Nat) (l0_1 : List Bool) (A0_2 : Option Addr) (c0_2 : Nat) (l0_2 : List Int) (P0_3_ : Nat → Prop) (A0_3 : Option Addr) (c0_3 : Nat) (l0_3 : List (S58)) (a1 : Int) (r : List (S58)) (w : World) (hr0_0 : Kd.C Kd.string w A0_0 l0_0.length l0_0) (hc0_0 : l0_0.length ≤ c0_0) (hr0_1 : Kd.C Kd.bool w A0_1 l0_1.length l0_1) (hc0_1 : l0_1.length ≤ c0_1) (hr0_2 : Kd.C (Kd.int .i64) w A0_2 l0_2.length l0_2) (hc0_2 : l0_2.length ≤ c0_2) (hs0_3 : Kd.V k58 58 w w.heap.size (fun k_ => P0_3_ k_) (.slice A0_3 l0_3.length c0_3) l0_3) (h : table_rowOf.f l0_0 l0_1 l0_2 l0_3 a1 = some r) :
  Calls Try.prog 48 #[.agg #[.slice A0_0 l0_0.length c0_0, .slice A0_1 l0_1.length c0_1, .slice A0_2 l0_2.length c0_2, .slice A0_3 l0_3.length c0_3], .int .i64 a1] w fun e w' => ∃ v0_ : Value, e = .returned (v0_) ∧ Kd.V k58 58 w' w.heap.size (fun k_ => (P0_3_ k_ ∨ w.heap.size ≤ k_)) v0_ r ∧ Below w.heap.size w w' := by
 have hu32 := Try.underlying32; have HR0_0 := Aside0.mk hr0_0; have HC0_0 := Aside0.mk hc0_0; clear hr0_0 hc0_0; have HR0_1 := Aside0.mk hr0_1; have HC0_1 := Aside0.mk hc0_1; clear hr0_1 hc0_1; have HR0_2 := Aside0.mk hr0_2; have HC0_2 := Aside0.mk hc0_2; clear hr0_2 hc0_2; have HO0_3 := Aside0.mk (show Kd.V k58 58 w w.heap.size (fun k_ => (P0_3_ k_ ∨ w.heap.size ≤ k_)) (.slice A0_3 l0_3.length c0_3) l0_3 from Kd.V_mono hs0_3 (fun k_ hk => .inl hk)); have HB := Aside0.mk (Below.refl w.heap.size w); have H : (if 0 ≤ a1 then (if a1 < (l0_2.length : Int) then (if 0 ≤ (wrap64 (a1 + 1)) then (if (wrap64 (a1 + 1)) < (l0_2.length : Int) then (if 0 ≤ (rd l0_2 a1) then (if (rd l0_2 a1) ≤ (rd l0_2 (wrap64 (a1 + 1))) then (if (rd l0_2 (wrap64 (a1 + 1))) ≤ (l0_3.length : Int) then (some ((l0_3.take ((rd l0_2 (wrap64 (a1 + 1))) : Int).toNat).drop ((rd l0_2 a1) : Int).toNat)) else (none)) else (none)) else (none)) else (none)) else (none)) else (none)) else (none)) = some r := h; clear h
 by_cases c3 : 0 ≤ a1
 ·rw [if_pos c3] at H; have c3b0 := decide_eq_true c3; clear c3
  by_cases c4 : a1 < (l0_2.length : Int)
  ·rw [if_pos c4] at H; have c4b0 := decide_eq_true c4; clear c4; obtain ⟨ji5, hji5⟩ : ∃ j_ : Int, (wrap64 (a1 + 1)) = j_ := ⟨_, rfl⟩
   replace H : (if 0 ≤ (ji5) then (if (ji5) < (l0_2.length : Int) then (if 0 ≤ (rd l0_2 a1) then (if (rd l0_2 a1) ≤ (rd l0_2 (ji5)) then (if (rd l0_2 (ji5)) ≤ (l0_3.length : Int) then (some ((l0_3.take ((rd l0_2 (ji5)) : Int).toNat).drop ((rd l0_2 a1) : Int).toNat)) else (none)) else (none)) else (none)) else (none)) else (none)) = some r := by first | (rw [hji5] at H; exact H) | (simp only [hji5] at H ⊢; exact H)
   have hji5w : (IntKind.i64.wrap (a1 + 1)) = ji5 := (i64_w _).trans hji5
   by_cases c6 : 0 ≤ (ji5)
   ·rw [if_pos c6] at H; have c6b0 := decide_eq_true c6; clear c6
    by_cases c7 : (ji5) < (l0_2.length : Int)
    ·rw [if_pos c7] at H; have c7b0 := decide_eq_true c7; clear c7
     by_cases c8 : 0 ≤ (rd l0_2 a1)
     ·rw [if_pos c8] at H; have c8b0 := eq_true c8; have c8b1 := decide_eq_true c8; clear c8
      by_cases c9 : (rd l0_2 a1) ≤ (rd l0_2 (ji5))
      ·rw [if_pos c9] at H; have c9b0 := eq_true c9; have c9b1 := decide_eq_true c9; clear c9
       by_cases c10 : (rd l0_2 (ji5)) ≤ (l0_3.length : Int)
       ·rw [if_pos c10] at H; have c10b0 := eq_true c10; have c10b1 := decide_eq_true c10; clear c10; obtain ⟨y145, hy145⟩ : ∃ y_ : List (S58), y_ = ((l0_3.take ((rd l0_2 (ji5)) : Int).toNat).drop ((rd l0_2 a1) : Int).toNat) := ⟨_, rfl⟩
        replace H : (some y145) = some r := rH hy145 H
        have Ny145 := Aside0.mk hy145; clear hy145; obtain rfl := Option.some.inj H
        go_enter Try.func48, Try.ntmps48
        go_wp2_with (first | ((with_reducible refine gate_dst (N := 2) rfl ?_); refine be_ (cs := #[.slice A0_0 l0_0.length c0_0, .slice A0_1 l0_1.length c0_1, .slice A0_2 l0_2.length c0_2, .slice A0_3 l0_3.length c0_3]) (t := 32) ?_; intro gb142 hg w11 hbox hb; replace HO0_3 := Aside0.mk (Kd.V_below (Kd.V_elderB (vO HO0_3.out) gb142 (Nat.le_of_eq hg.symm)) hb); have BK142 := Aside0.mk (hbox); have GW142 := gE hg (bO HB.out); have GE142 := gE hg (bO HB.out); replace HB := hS0 HB hb; clear hb hbox hg; obtain ⟨hcz12_0, hcz12_1, hcz12_2, hcz12_3, hfz12_0, hfz12_1, hfz12_2, hfz12_3⟩ := bF4 BK142.out; have p143 : 0 ≤ (a1 : Int) := of_decide_eq_true aO; have q143 : a1 < (l0_2.length : Int) := of_decide_eq_true aO; obtain ⟨ad143, e143, hx143_0⟩ := Kd.at_int HR0_2.out a1 p143 q143; cases e143; replace hx143_0 := cX HB hx143_0; replace p143 := eq_true p143; replace q143 := eq_true q143; have p144 : 0 ≤ ((ji5) : Int) := of_decide_eq_true aO; have q144 : (ji5) < (l0_2.length : Int) := of_decide_eq_true aO; obtain ⟨ad144, e144, hx144_0⟩ := Kd.at_int HR0_2.out (ji5) p144 q144; have he_ : ad143 = ad144 := (by injection e144); subst he_; replace hx144_0 := cX HB hx144_0; replace p144 := eq_true p144; replace q144 := eq_true q144; have q13 : ((rd l0_2 (ji5)) : Int) ≤ ((l0_3.length : Int) : Int) := of_decide_eq_true aO; obtain ⟨i013, hi013, _, hsz13, _⟩ := info_parts info58; have hroom13 : l0_3.length ≤ c0_3 := (Kd.V_reads' HO0_3.out).2.1; have hC13 : Kd.F k58 _ _ A0_3 l0_3.length l0_3 := (Kd.V_at (base := w.heap.size) HO0_3.out).2.2; have ql13 : ((rd l0_2 a1) : Int) ≤ ((rd l0_2 (ji5)) : Int) := of_decide_eq_true aO; have q013 : (0 : Int) ≤ ((rd l0_2 a1) : Int) := of_decide_eq_true aO; have hcut13 := cut_mid (P := Try.prog) 30 58 .i64 .i64 Try.underlying30 hi013 3 hsz13 A0_3 l0_3.length c0_3 (rd l0_2 a1) (rd l0_2 (ji5)) q013 ql13 q13 hroom13; have hr13 := Kd.F_mid (lo := ((rd l0_2 a1) : Int).toNat) (hi := ((rd l0_2 (ji5)) : Int).toNat) (c := c0_3) hC13 (by omega) (by omega) hroom13; obtain ⟨A13, hA13⟩ : ∃ A1, A1 = (if c0_3 = ((rd l0_2 a1) : Int).toNat then A0_3 else (A0_3 : Option Addr).map (·.add (((rd l0_2 a1) : Int).toNat * 3))) := ⟨_, rfl⟩; obtain ⟨c13, hc13⟩ : ∃ c1, c1 = c0_3 - ((rd l0_2 a1) : Int).toNat := ⟨_, rfl⟩; have hy13 : y145.length = ((rd l0_2 (ji5)) : Int).toNat - ((rd l0_2 a1) : Int).toNat := (by rw [Ny145.out, List.length_drop, List.length_take] <;> omega); rw [show ((l0_3).take ((rd l0_2 (ji5)) : Int).toNat).drop ((rd l0_2 a1) : Int).toNat = y145 from Ny145.out.symm] at hr13; replace hr13 : Kd.F k58 _ _ A13 y145.length y145 := (by rw [hA13]; exact hr13); rw [← hy13, ← hA13, ← hc13] at hcut13; have HO149 := Aside0.mk (show Kd.V k58 58 _ w.heap.size _ (.slice A13 y145.length c13) y145 from Kd.V_mk (by rw [hy13, hc13]; exact Nat.sub_le_sub_right (Nat.le_trans (by omega) hroom13) _) hr13); have HC149 := Aside0.mk (show y145.length ≤ c13 from by rw [hy13, hc13]; exact Nat.sub_le_sub_right (Nat.le_trans (by omega) hroom13) _); clear hr13 hC13 hroom13 hi013 hsz13 hc13; have KY13 := Aside0.mk hy13; have KA13 := Aside0.mk hA13; clear hy13 hA13; replace q13 := eq_true q13))
        repeat (go_quiet (first | ((with_reducible refine gate_dst (N := 2) rfl ?_); refine be_ (cs := #[.slice A0_0 l0_0.length c0_0, .slice A0_1 l0_1.length c0_1, .slice A0_2 l0_2.length c0_2, .slice A0_3 l0_3.length c0_3]) (t := 32) ?_; intro gb142 hg w11 hbox hb; replace HO0_3 := Aside0.mk (Kd.V_below (Kd.V_elderB (vO HO0_3.out) gb142 (Nat.le_of_eq hg.symm)) hb); have BK142 := Aside0.mk (hbox); have GW142 := gE hg (bO HB.out); have GE142 := gE hg (bO HB.out); replace HB := hS0 HB hb; clear hb hbox hg; obtain ⟨hcz12_0, hcz12_1, hcz12_2, hcz12_3, hfz12_0, hfz12_1, hfz12_2, hfz12_3⟩ := bF4 BK142.out; have p143 : 0 ≤ (a1 : Int) := of_decide_eq_true aO; have q143 : a1 < (l0_2.length : Int) := of_decide_eq_true aO; obtain ⟨ad143, e143, hx143_0⟩ := Kd.at_int HR0_2.out a1 p143 q143; cases e143; replace hx143_0 := cX HB hx143_0; replace p143 := eq_true p143; replace q143 := eq_true q143; have p144 : 0 ≤ ((ji5) : Int) := of_decide_eq_true aO; have q144 : (ji5) < (l0_2.length : Int) := of_decide_eq_true aO; obtain ⟨ad144, e144, hx144_0⟩ := Kd.at_int HR0_2.out (ji5) p144 q144; have he_ : ad143 = ad144 := (by injection e144); subst he_; replace hx144_0 := cX HB hx144_0; replace p144 := eq_true p144; replace q144 := eq_true q144; have q13 : ((rd l0_2 (ji5)) : Int) ≤ ((l0_3.length : Int) : Int) := of_decide_eq_true aO; obtain ⟨i013, hi013, _, hsz13, _⟩ := info_parts info58; have hroom13 : l0_3.length ≤ c0_3 := (Kd.V_reads' HO0_3.out).2.1; have hC13 : Kd.F k58 _ _ A0_3 l0_3.length l0_3 := (Kd.V_at (base := w.heap.size) HO0_3.out).2.2; have ql13 : ((rd l0_2 a1) : Int) ≤ ((rd l0_2 (ji5)) : Int) := of_decide_eq_true aO; have q013 : (0 : Int) ≤ ((rd l0_2 a1) : Int) := of_decide_eq_true aO; have hcut13 := cut_mid (P := Try.prog) 30 58 .i64 .i64 Try.underlying30 hi013 3 hsz13 A0_3 l0_3.length c0_3 (rd l0_2 a1) (rd l0_2 (ji5)) q013 ql13 q13 hroom13; have hr13 := Kd.F_mid (lo := ((rd l0_2 a1) : Int).toNat) (hi := ((rd l0_2 (ji5)) : Int).toNat) (c := c0_3) hC13 (by omega) (by omega) hroom13; obtain ⟨A13, hA13⟩ : ∃ A1, A1 = (if c0_3 = ((rd l0_2 a1) : Int).toNat then A0_3 else (A0_3 : Option Addr).map (·.add (((rd l0_2 a1) : Int).toNat * 3))) := ⟨_, rfl⟩; obtain ⟨c13, hc13⟩ : ∃ c1, c1 = c0_3 - ((rd l0_2 a1) : Int).toNat := ⟨_, rfl⟩; have hy13 : y145.length = ((rd l0_2 (ji5)) : Int).toNat - ((rd l0_2 a1) : Int).toNat := (by rw [Ny145.out, List.length_drop, List.length_take] <;> omega); rw [show ((l0_3).take ((rd l0_2 (ji5)) : Int).toNat).drop ((rd l0_2 a1) : Int).toNat = y145 from Ny145.out.symm] at hr13; replace hr13 : Kd.F k58 _ _ A13 y145.length y145 := (by rw [hA13]; exact hr13); rw [← hy13, ← hA13, ← hc13] at hcut13; have HO149 := Aside0.mk (show Kd.V k58 58 _ w.heap.size _ (.slice A13 y145.length c13) y145 from Kd.V_mk (by rw [hy13, hc13]; exact Nat.sub_le_sub_right (Nat.le_trans (by omega) hroom13) _) hr13); have HC149 := Aside0.mk (show y145.length ≤ c13 from by rw [hy13, hc13]; exact Nat.sub_le_sub_right (Nat.le_trans (by omega) hroom13) _); clear hr13 hC13 hroom13 hi013 hsz13 hc13; have KY13 := Aside0.mk hy13; have KA13 := Aside0.mk hA13; clear hy13 hA13; replace q13 := eq_true q13)); try go_wp2_with (first | ((with_reducible refine gate_dst (N := 2) rfl ?_); refine be_ (cs := #[.slice A0_0 l0_0.length c0_0, .slice A0_1 l0_1.length c0_1, .slice A0_2 l0_2.length c0_2, .slice A0_3 l0_3.length c0_3]) (t := 32) ?_; intro gb142 hg w11 hbox hb; replace HO0_3 := Aside0.mk (Kd.V_below (Kd.V_elderB (vO HO0_3.out) gb142 (Nat.le_of_eq hg.symm)) hb); have BK142 := Aside0.mk (hbox); have GW142 := gE hg (bO HB.out); have GE142 := gE hg (bO HB.out); replace HB := hS0 HB hb; clear hb hbox hg; obtain ⟨hcz12_0, hcz12_1, hcz12_2, hcz12_3, hfz12_0, hfz12_1, hfz12_2, hfz12_3⟩ := bF4 BK142.out; have p143 : 0 ≤ (a1 : Int) := of_decide_eq_true aO; have q143 : a1 < (l0_2.length : Int) := of_decide_eq_true aO; obtain ⟨ad143, e143, hx143_0⟩ := Kd.at_int HR0_2.out a1 p143 q143; cases e143; replace hx143_0 := cX HB hx143_0; replace p143 := eq_true p143; replace q143 := eq_true q143; have p144 : 0 ≤ ((ji5) : Int) := of_decide_eq_true aO; have q144 : (ji5) < (l0_2.length : Int) := of_decide_eq_true aO; obtain ⟨ad144, e144, hx144_0⟩ := Kd.at_int HR0_2.out (ji5) p144 q144; have he_ : ad143 = ad144 := (by injection e144); subst he_; replace hx144_0 := cX HB hx144_0; replace p144 := eq_true p144; replace q144 := eq_true q144; have q13 : ((rd l0_2 (ji5)) : Int) ≤ ((l0_3.length : Int) : Int) := of_decide_eq_true aO; obtain ⟨i013, hi013, _, hsz13, _⟩ := info_parts info58; have hroom13 : l0_3.length ≤ c0_3 := (Kd.V_reads' HO0_3.out).2.1; have hC13 : Kd.F k58 _ _ A0_3 l0_3.length l0_3 := (Kd.V_at (base := w.heap.size) HO0_3.out).2.2; have ql13 : ((rd l0_2 a1) : Int) ≤ ((rd l0_2 (ji5)) : Int) := of_decide_eq_true aO; have q013 : (0 : Int) ≤ ((rd l0_2 a1) : Int) := of_decide_eq_true aO; have hcut13 := cut_mid (P := Try.prog) 30 58 .i64 .i64 Try.underlying30 hi013 3 hsz13 A0_3 l0_3.length c0_3 (rd l0_2 a1) (rd l0_2 (ji5)) q013 ql13 q13 hroom13; have hr13 := Kd.F_mid (lo := ((rd l0_2 a1) : Int).toNat) (hi := ((rd l0_2 (ji5)) : Int).toNat) (c := c0_3) hC13 (by omega) (by omega) hroom13; obtain ⟨A13, hA13⟩ : ∃ A1, A1 = (if c0_3 = ((rd l0_2 a1) : Int).toNat then A0_3 else (A0_3 : Option Addr).map (·.add (((rd l0_2 a1) : Int).toNat * 3))) := ⟨_, rfl⟩; obtain ⟨c13, hc13⟩ : ∃ c1, c1 = c0_3 - ((rd l0_2 a1) : Int).toNat := ⟨_, rfl⟩; have hy13 : y145.length = ((rd l0_2 (ji5)) : Int).toNat - ((rd l0_2 a1) : Int).toNat := (by rw [Ny145.out, List.length_drop, List.length_take] <;> omega); rw [show ((l0_3).take ((rd l0_2 (ji5)) : Int).toNat).drop ((rd l0_2 a1) : Int).toNat = y145 from Ny145.out.symm] at hr13; replace hr13 : Kd.F k58 _ _ A13 y145.length y145 := (by rw [hA13]; exact hr13); rw [← hy13, ← hA13, ← hc13] at hcut13; have HO149 := Aside0.mk (show Kd.V k58 58 _ w.heap.size _ (.slice A13 y145.length c13) y145 from Kd.V_mk (by rw [hy13, hc13]; exact Nat.sub_le_sub_right (Nat.le_trans (by omega) hroom13) _) hr13); have HC149 := Aside0.mk (show y145.length ≤ c13 from by rw [hy13, hc13]; exact Nat.sub_le_sub_right (Nat.le_trans (by omega) hroom13) _); clear hr13 hC13 hroom13 hi013 hsz13 hc13; have KY13 := Aside0.mk hy13; have KA13 := Aside0.mk hA13; clear hy13 hA13; replace q13 := eq_true q13)))
        go_ret
        exact ⟨_, by first | rfl | (simp [errW_none, errW_some] <;> rfl) | (simp only [← hji5]; first | rfl | (simp [errW_none, errW_some] <;> rfl)) | (simp [*, errW_none, errW_some] <;> rfl), by (with_reducible repeat (first | apply Kd.V_alloc | apply Kd.V_drewN | apply Kd.V_drew)); exact Kd.V_mono HO149.out (fun _ hk => hk.1), bS1 HB.out GE142.out⟩
       ·rw [if_neg c10] at H; exact absurd H (by simp)
      ·rw [if_neg c9] at H; exact absurd H (by simp)
     ·rw [if_neg c8] at H; exact absurd H (by simp)
    ·rw [if_neg c7] at H; exact absurd H (by simp)
   ·rw [if_neg c6] at H; exact absurd H (by simp)
  ·rw [if_neg c4] at H; exact absurd H (by simp)
 ·rw [if_neg c3] at H; exact absurd H (by simp)

/-! ### cmp_isNaN_int: function 71 -/
def cmp_isNaN_int.f (a0 : Int) : Option (Bool) := some (a0 != a0)
set_option maxHeartbeats 8000000 in
set_option maxRecDepth 100000 in
theorem cmp_isNaN_int.calls (a0 : Int) (r : Bool) (w : World) (h : cmp_isNaN_int.f a0 = some r) :
  Calls Try.prog 71 #[.int .i64 a0] w fun e w' => e = .returned (.bool r) ∧ Drawn0 w w' := by
 have H : (some (a0 != a0)) = some r := h; clear h; obtain rfl := Option.some.inj H
 go_enter Try.func71, Try.ntmps71
 go_wp2
 go_ret
 exact ⟨by first | rfl | (simp; done) | (simp [*]; done), by repeat (first | exact Drawn0.refl _ | apply Drawn0.step)⟩

/-! ### cmp_Less_int: function 65 -/
def cmp_Less_int.f (a0 : Int) (a1 : Int) : Option (Bool) := (cmp_isNaN_int.f a0).bind fun t150 => (if t150 = true then ((cmp_isNaN_int.f a1).bind fun t151 => (if t151 = true then (some (decide (a0 < a1))) else (some true))) else (some (decide (a0 < a1))))
set_option maxHeartbeats 8000000 in
set_option maxRecDepth 100000 in
theorem cmp_Less_int.calls (a0 : Int) (a1 : Int) (r : Bool) (w : World) (h : cmp_Less_int.f a0 a1 = some r) :
  Calls Try.prog 65 #[.int .i64 a0, .int .i64 a1] w fun e w' => e = .returned (.bool r) ∧ Drawn0 w w' := by
 have H : ((cmp_isNaN_int.f a0).bind fun t150 => (if t150 = true then ((cmp_isNaN_int.f a1).bind fun t151 => (if t151 = true then (some (decide (a0 < a1))) else (some true))) else (some (decide (a0 < a1))))) = some r := h; clear h; replace H := Option.bind_eq_some_iff.mp H; obtain ⟨t150, A30, H⟩ := H; replace H : (if t150 = true then ((cmp_isNaN_int.f a1).bind fun t151 => (if t151 = true then (some (decide (a0 < a1))) else (some true))) else (some (decide (a0 < a1)))) = some r := H; have A3 := Aside0.mk A30; clear A30
 by_cases c4 : t150 = true
 ·subst c4
  have H1 : ((cmp_isNaN_int.f a1).bind fun t151 => (if t151 = true then (some (decide (a0 < a1))) else (some true))) = some r := by rw [if_pos rfl] at H; exact H
  clear H; have H := H1; clear H1; replace H := Option.bind_eq_some_iff.mp H; obtain ⟨t151, A50, H⟩ := H; replace H : (if t151 = true then (some (decide (a0 < a1))) else (some true)) = some r := H; have A5 := Aside0.mk A50; clear A50
  by_cases c6 : t151 = true
  ·subst c6
   have H1 : (some (decide (a0 < a1))) = some r := by rw [if_pos rfl] at H; exact H
   clear H; have H := H1; clear H1; obtain rfl := Option.some.inj H
   go_enter Try.func65, Try.ntmps65
   go_wp2_with (first | ((with_reducible refine gate_callee (f := 71) rfl ?_); refine gL_ (some 6) Try.func71 #[.int .i64 a0] ?_; (with_reducible refine (cmp_isNaN_int.calls a0 true _ A3.out).mono ?_); rintro e w' ⟨rfl, ⟨nd, rfl⟩⟩; refine ⟨_, rfl, ?_⟩) | (go_at_call 71; (with_reducible refine (cmp_isNaN_int.calls a1 true _ A5.out).mono ?_); rintro e w' ⟨rfl, ⟨nd, rfl⟩⟩))
   go_ret
   exact ⟨by first | rfl | (simp; done) | (simp [*]; done), by repeat (first | exact Drawn0.refl _ | apply Drawn0.step)⟩
  ·replace c6 := Bool.eq_false_iff.mpr c6; subst c6
   have H1 : (some true) = some r := by rw [if_neg (show ¬ (false = true) by decide)] at H; exact H
   clear H; have H := H1; clear H1; obtain rfl := Option.some.inj H
   go_enter Try.func65, Try.ntmps65
   go_wp2_with (first | ((with_reducible refine gate_callee (f := 71) rfl ?_); refine gL_ (some 6) Try.func71 #[.int .i64 a0] ?_; (with_reducible refine (cmp_isNaN_int.calls a0 true _ A3.out).mono ?_); rintro e w' ⟨rfl, ⟨nd, rfl⟩⟩; refine ⟨_, rfl, ?_⟩) | (go_at_call 71; (with_reducible refine (cmp_isNaN_int.calls a1 false _ A5.out).mono ?_); rintro e w' ⟨rfl, ⟨nd, rfl⟩⟩))
   go_ret
   exact ⟨by first | rfl | (simp; done) | (simp [*]; done), by repeat (first | exact Drawn0.refl _ | apply Drawn0.step)⟩
 ·replace c4 := Bool.eq_false_iff.mpr c4; subst c4
  have H1 : (some (decide (a0 < a1))) = some r := by rw [if_neg (show ¬ (false = true) by decide)] at H; exact H
  clear H; have H := H1; clear H1; obtain rfl := Option.some.inj H
  go_enter Try.func65, Try.ntmps65
  go_wp2_with (first | ((with_reducible refine gate_callee (f := 71) rfl ?_); refine gL_ (some 6) Try.func71 #[.int .i64 a0] ?_; (with_reducible refine (cmp_isNaN_int.calls a0 false _ A3.out).mono ?_); rintro e w' ⟨rfl, ⟨nd, rfl⟩⟩; refine ⟨_, rfl, ?_⟩))
  go_ret
  exact ⟨by first | rfl | (simp; done) | (simp [*]; done), by repeat (first | exact Drawn0.refl _ | apply Drawn0.step)⟩

/-! ### slices_IsSorted_int_int: function 54 -/
def slices_IsSorted_int_int.l0 : Nat → List Int → Int → Option (Bool)
 | 0, _, _ => none
 | k + 1, x0, x3 => if x3 > 0 then (if 0 ≤ x3 then (if x3 < (x0.length : Int) then (if 0 ≤ (wrap64 (x3 - 1)) then (if (wrap64 (x3 - 1)) < (x0.length : Int) then ((cmp_Less_int.f (rd x0 x3) (rd x0 (wrap64 (x3 - 1)))).bind fun t154 => (if t154 = true then (some false) else (slices_IsSorted_int_int.l0 k x0 (wrap64 (x3 - 1))))) else (none)) else (none)) else (none)) else (none)) else (some true)
def slices_IsSorted_int_int.f (k : Nat) (l0 : List Int) : Option (Bool) := slices_IsSorted_int_int.l0 k l0 (wrap64 ((l0.length : Int) - 1))
theorem slices_IsSorted_int_int.mono_l : ∀ k, (∀ y0 y1, LeO (slices_IsSorted_int_int.l0 k y0 y1) (slices_IsSorted_int_int.l0 (k + 1) y0 y1))
 | 0 => fun _ _ r h => by simp [slices_IsSorted_int_int.l0] at h
 | k + 1 => by
  have ih0 := slices_IsSorted_int_int.mono_l k
  ·intro y0 y1
   unfold slices_IsSorted_int_int.l0
   repeat' first | (with_reducible first | exact ih0 _ _ | exact lA | apply lI | refine lB ?_ fun _ => ?_) | exact lN _ | apply lI | refine lB ?_ fun _ => ?_
theorem slices_IsSorted_int_int.mono : ∀ a0 k, LeO (slices_IsSorted_int_int.f k a0) (slices_IsSorted_int_int.f (k + 1) a0) := by
 intro a0 k; have ih0 := slices_IsSorted_int_int.mono_l k
 unfold slices_IsSorted_int_int.f
 repeat' first | (with_reducible first | exact ih0 _ _ | exact lA | apply lI | refine lB ?_ fun _ => ?_) | exact lN _ | apply lI | refine lB ?_ fun _ => ?_
set_option maxHeartbeats 8000000 in
set_option maxRecDepth 100000 in
theorem slices_IsSorted_int_int.calls (k : Nat) (A0 : Option Addr) (c0 : Nat) (l0 : List Int) (r : Bool) (w : World) (hr0 : Kd.C (Kd.int .i64) w A0 l0.length l0) (hc0 : l0.length ≤ c0) (h : slices_IsSorted_int_int.f k l0 = some r) :
  Calls Try.prog 54 #[.slice A0 l0.length c0] w fun e w' => e = .returned (.bool r) ∧ Drawn0 w w' := by
 have HR0 := Aside0.mk hr0; have HC0 := Aside0.mk hc0; clear hr0 hc0; have H : (slices_IsSorted_int_int.l0 k l0 (wrap64 ((l0.length : Int) - 1))) = some r := h; clear h; have H' := Aside0.mk H; clear H
 go_enter Try.func54, Try.ntmps54
 go_wp2
 repeat (go_quiet (fail); try go_wp2)
 go_loopg [3] k (fun kq v3 w' => ∃ (x3_1 : Int), v3 = .int .i64 x3_1 ∧ Aside0 (slices_IsSorted_int_int.l0 kq l0 x3_1 = some r) ∧ Aside0 (kq ≤ k) ∧ Drawn0 w w')
 case atStart => exact ⟨(wrap64 ((l0.length : Int) - 1)), sI, H', ⟨Nat.le_refl _⟩, by repeat (first | exact Drawn0.refl _ | apply Drawn0.step)⟩
 case round =>
  clear H'; obtain ⟨x3_1, rfl, HA, HK1, ⟨m1, rfl⟩⟩ := hrel; cases gk with
  | zero => exact absurd HA.out (by simp [slices_IsSorted_int_int.l0])
  | succ k1 =>
   have H := HA.out; clear HA; simp only [slices_IsSorted_int_int.l0] at H
   by_cases c2 : x3_1 > 0
   ·rw [if_pos c2] at H; have c2b0 := decide_eq_true c2; clear c2
    by_cases c3 : 0 ≤ x3_1
    ·rw [if_pos c3] at H; have c3b0 := decide_eq_true c3; clear c3
     by_cases c4 : x3_1 < (l0.length : Int)
     ·rw [if_pos c4] at H; have c4b0 := decide_eq_true c4; clear c4; obtain ⟨ji5, hji5⟩ : ∃ j_ : Int, (wrap64 (x3_1 - 1)) = j_ := ⟨_, rfl⟩
      replace H : (if 0 ≤ (ji5) then (if (ji5) < (l0.length : Int) then ((cmp_Less_int.f (rd l0 x3_1) (rd l0 (ji5))).bind fun t154 => (if t154 = true then (some false) else (slices_IsSorted_int_int.l0 k1 l0 ji5))) else (none)) else (none)) = some r := by first | (rw [hji5] at H; exact H) | (simp only [hji5] at H ⊢; exact H)
      have hji5w : (IntKind.i64.wrap (x3_1 - 1)) = ji5 := (i64_w _).trans hji5
      by_cases c6 : 0 ≤ (ji5)
      ·rw [if_pos c6] at H; have c6b0 := decide_eq_true c6; clear c6
       by_cases c7 : (ji5) < (l0.length : Int)
       ·rw [if_pos c7] at H; have c7b0 := decide_eq_true c7; clear c7; replace H := Option.bind_eq_some_iff.mp H; obtain ⟨t154, A80, H⟩ := H; replace H : (if t154 = true then (some false) else (slices_IsSorted_int_int.l0 k1 l0 ji5)) = some r := H; have A8 := Aside0.mk A80; clear A80
        by_cases c9 : t154 = true
        ·subst c9
         have H1 : (some false) = some r := by rw [if_pos rfl] at H; exact H
         clear H; have H := H1; clear H1; obtain rfl := Option.some.inj H; have p152 : 0 ≤ (x3_1 : Int) := of_decide_eq_true aO; have q152 : x3_1 < (l0.length : Int) := of_decide_eq_true aO; obtain ⟨ad152, e152, hx152_0⟩ := Kd.at_int HR0.out x3_1 p152 q152; cases e152; replace p152 := eq_true p152; replace q152 := eq_true q152; have p153 : 0 ≤ ((ji5) : Int) := of_decide_eq_true aO; have q153 : (ji5) < (l0.length : Int) := of_decide_eq_true aO; obtain ⟨ad153, e153, hx153_0⟩ := Kd.at_int HR0.out (ji5) p153 q153; have he_ : ad152 = ad153 := (by injection e153); subst he_; replace p153 := eq_true p153; replace q153 := eq_true q153
         go_wp2_with (first | (go_at_call 65; (with_reducible refine (cmp_Less_int.calls (rd l0 x3_1) (rd l0 (ji5)) true _ A8.out).mono ?_); rintro e w' ⟨rfl, ⟨nd, rfl⟩⟩; (try exact dN)))
         repeat (go_quiet (first | (go_at_call 65; (with_reducible refine (cmp_Less_int.calls (rd l0 x3_1) (rd l0 (ji5)) true _ A8.out).mono ?_); rintro e w' ⟨rfl, ⟨nd, rfl⟩⟩; (try exact dN))); try go_wp2_with (first | (go_at_call 65; (with_reducible refine (cmp_Less_int.calls (rd l0 x3_1) (rd l0 (ji5)) true _ A8.out).mono ?_); rintro e w' ⟨rfl, ⟨nd, rfl⟩⟩; (try exact dN))))
         go_ret
         exact ⟨by first | rfl | (simp; done) | (simp only [← hji5] <;> (first | rfl | simp)) | (simp [*]; done), by repeat (first | exact Drawn0.refl _ | apply Drawn0.step)⟩
        ·replace c9 := Bool.eq_false_iff.mpr c9; subst c9
         have H1 : (slices_IsSorted_int_int.l0 k1 l0 ji5) = some r := by rw [if_neg (show ¬ (false = true) by decide)] at H; exact H
         clear H; have H := H1; clear H1; have H' := Aside0.mk H; clear H; have p152 : 0 ≤ (x3_1 : Int) := of_decide_eq_true aO; have q152 : x3_1 < (l0.length : Int) := of_decide_eq_true aO; obtain ⟨ad152, e152, hx152_0⟩ := Kd.at_int HR0.out x3_1 p152 q152; cases e152; replace p152 := eq_true p152; replace q152 := eq_true q152; have p153 : 0 ≤ ((ji5) : Int) := of_decide_eq_true aO; have q153 : (ji5) < (l0.length : Int) := of_decide_eq_true aO; obtain ⟨ad153, e153, hx153_0⟩ := Kd.at_int HR0.out (ji5) p153 q153; have he_ : ad152 = ad153 := (by injection e153); subst he_; replace p153 := eq_true p153; replace q153 := eq_true q153
         go_wp2_with (first | (go_at_call 65; (with_reducible refine (cmp_Less_int.calls (rd l0 x3_1) (rd l0 (ji5)) false _ A8.out).mono ?_); rintro e w' ⟨rfl, ⟨nd, rfl⟩⟩; (try exact dN)))
         repeat (go_quiet (first | (go_at_call 65; (with_reducible refine (cmp_Less_int.calls (rd l0 x3_1) (rd l0 (ji5)) false _ A8.out).mono ?_); rintro e w' ⟨rfl, ⟨nd, rfl⟩⟩; (try exact dN))); try go_wp2_with (first | (go_at_call 65; (with_reducible refine (cmp_Less_int.calls (rd l0 x3_1) (rd l0 (ji5)) false _ A8.out).mono ?_); rintro e w' ⟨rfl, ⟨nd, rfl⟩⟩; (try exact dN))))
         go_roundg k1
         case measure => have := HK1.out; omega
         case rel => exact ⟨(ji5), (by first | rfl | (simp; done) | (simp only [← hji5] <;> (first | rfl | simp)) | (simp [*]; done)), H', ⟨by have := HK1.out; omega⟩, by repeat (first | exact Drawn0.refl _ | apply Drawn0.step)⟩
       ·rw [if_neg c7] at H; exact absurd H (by simp)
      ·rw [if_neg c6] at H; exact absurd H (by simp)
     ·rw [if_neg c4] at H; exact absurd H (by simp)
    ·rw [if_neg c3] at H; exact absurd H (by simp)
   ·rw [if_neg c2] at H; have c2b0 := decide_eq_false c2; clear c2; obtain rfl := Option.some.inj H
    go_wp2
    repeat (go_quiet (fail); try go_wp2)
    go_ret
    exact ⟨by first | rfl | (simp; done) | (simp [*]; done), by repeat (first | exact Drawn0.refl _ | apply Drawn0.step)⟩

end Go.Proofs.Ytghfclgcgecgdaa.X
namespace Go.Proofs.Ytghfclgcgecgdaa.X
open Go.RowKit Go.Proofs.YtghfclgcgecgdaaW.PrintWords Go.Proofs.YtghfclgcgecgdaaW.PrintLast Go.Proofs.YtghfclgcgecgdaaW.PrintMore
attribute [local go_sem] max2_int min2_int max_two min_two max_three min_three max_four min_four
set_option linter.unusedVariables false
set_option linter.unusedSimpArgs false

attribute [local go_sem high] eqA58
/-! ### row_At: function 47 -/
def row_At.l0 : Nat → Int → List (S58) → Int → Int → Option (Int × Bool)
 | 0, _, _, _, _ => none
 | k + 1, x1, x8, x9, x10 => if x10 < x9 then (if 0 ≤ x10 then (if x10 < (x8.length : Int) then (if (Go.bits .and .i64 x1 ((rd_T58 x8 x10).f0)) = ((rd_T58 x8 x10).f1) then (some ((rd_T58 x8 x10).f2, true)) else (row_At.l0 k x1 x8 x9 (wrap64 (x10 + 1)))) else (none)) else (none)) else (some (0, false))
def row_At.f (k : Nat) (l0 : List (S58)) (a1 : Int) : Option (Int × Bool) := row_At.l0 k a1 l0 (l0.length : Int) 0
theorem row_At.mono_l : ∀ k, (∀ y0 y1 y2 y3, LeO (row_At.l0 k y0 y1 y2 y3) (row_At.l0 (k + 1) y0 y1 y2 y3))
 | 0 => fun _ _ _ _ r h => by simp [row_At.l0] at h
 | k + 1 => by
  have ih0 := row_At.mono_l k
  ·intro y0 y1 y2 y3
   unfold row_At.l0
   repeat' first | (with_reducible first | exact ih0 _ _ _ _ | exact lA | apply lI | refine lB ?_ fun _ => ?_) | exact lN _ | apply lI | refine lB ?_ fun _ => ?_
theorem row_At.mono : ∀ a0 a1 k, LeO (row_At.f k a0 a1) (row_At.f (k + 1) a0 a1) := by
 intro a0 a1 k; have ih0 := row_At.mono_l k
 unfold row_At.f
 repeat' first | (with_reducible first | exact ih0 _ _ _ _ | exact lA | apply lI | refine lB ?_ fun _ => ?_) | exact lN _ | apply lI | refine lB ?_ fun _ => ?_
set_option maxHeartbeats 8000000 in
set_option maxRecDepth 100000 in
theorem row_At.calls (k : Nat) (A0 : Option Addr) (c0 : Nat) (l0 : List (S58)) (a1 : Int) (r1 : Int) (r2 : Bool) (w : World) (hr0 : Kd.C k58 w A0 l0.length l0) (hc0 : l0.length ≤ c0) (h : row_At.f k l0 a1 = some (r1, r2)) :
  Calls Try.prog 47 #[.slice A0 l0.length c0, .int .i64 a1] w fun e w' => e = .returned (.tuple #[.int .i64 r1, .bool r2]) ∧ Below w.heap.size w w' := by
 have hu58 := Try.underlying58; have HR0 := Aside0.mk hr0; have HC0 := Aside0.mk hc0; clear hr0 hc0; have HB := Aside0.mk (Below.refl w.heap.size w); have H : (row_At.l0 k a1 l0 (l0.length : Int) 0) = some (r1, r2) := h; clear h; have H' := Aside0.mk H; clear H
 go_enter Try.func47, Try.ntmps47
 go_wp2
 go_loopg [10] k (fun kq v10 w' => ∃ (x10_1 : Int), v10 = .int .i64 x10_1 ∧ Aside0 (row_At.l0 kq a1 l0 (l0.length : Int) x10_1 = some (r1, r2)) ∧ Aside0 (kq ≤ k) ∧ Aside0 (Below w.heap.size w w'))
 case atStart => exact ⟨(0), sI, H', ⟨Nat.le_refl _⟩, ⟨bO HB.out⟩⟩
 case round =>
  clear H'
  try clear p2
  obtain ⟨x10_1, rfl, HA, HK1, HB⟩ := hrel; cases gk with
  | zero => exact absurd HA.out (by simp [row_At.l0])
  | succ k1 =>
   have H := HA.out; clear HA; simp only [row_At.l0] at H
   by_cases c3 : x10_1 < (l0.length : Int)
   ·rw [if_pos c3] at H; have c3b0 := decide_eq_true c3; clear c3
    by_cases c4 : 0 ≤ x10_1
    ·rw [if_pos c4] at H; have c4b0 := decide_eq_true c4; clear c4
     by_cases c5 : x10_1 < (l0.length : Int)
     ·rw [if_pos c5] at H; have c5b0 := decide_eq_true c5; clear c5
      by_cases c6 : (Go.bits .and .i64 a1 ((rd_T58 l0 x10_1).f0)) = ((rd_T58 l0 x10_1).f1)
      ·rw [if_pos c6] at H; obtain ⟨c6b0, c6b1⟩ := bq c6; clear c6; simp only [Option.some.injEq, Prod.mk.injEq] at H; obtain ⟨rfl, rfl⟩ := H; have p155 : 0 ≤ (x10_1 : Int) := of_decide_eq_true aO; have q155 : x10_1 < (l0.length : Int) := of_decide_eq_true aO; obtain ⟨ad155, e155, hx155_0, hx155_1, hx155_2⟩ := at_T58 HR0.out x10_1 p155 q155; cases e155; replace hx155_0 := cX HB hx155_0; replace hx155_1 := cX HB hx155_1; replace hx155_2 := cX HB hx155_2; replace p155 := eq_true p155; replace q155 := eq_true q155
       go_wp2_with (first | ((with_reducible refine gate_dst (N := 7) rfl ?_); refine be_ (cs := #[.int .i64 0, .int .i64 0, .int .i64 0]) (t := 58) ?_; intro gb156 hg w7 hbox hb; have BK156 := Aside0.mk (hbox); have GW156 := gE hg (bO HB.out); have GE156 := gE hg (bO HB.out); replace HB := hS0 HB hb; clear hb hbox hg; obtain ⟨hcz8_0, hcz8_1, hcz8_2, hfz8_0, hfz8_1, hfz8_2⟩ := bF3 BK156.out))
       go_ret2
       exact ⟨eW, bS1 HB.out GE156.out⟩
      ·rw [if_neg c6] at H; obtain ⟨c6b0, c6b1⟩ := bn c6; have H' := Aside0.mk H; clear H; have p155 : 0 ≤ (x10_1 : Int) := of_decide_eq_true aO; have q155 : x10_1 < (l0.length : Int) := of_decide_eq_true aO; obtain ⟨ad155, e155, hx155_0, hx155_1, hx155_2⟩ := at_T58 HR0.out x10_1 p155 q155; cases e155; replace hx155_0 := cX HB hx155_0; replace hx155_1 := cX HB hx155_1; replace hx155_2 := cX HB hx155_2; replace p155 := eq_true p155; replace q155 := eq_true q155
       go_wp2_with (first | ((with_reducible refine gate_dst (N := 7) rfl ?_); refine be_ (cs := #[.int .i64 0, .int .i64 0, .int .i64 0]) (t := 58) ?_; intro gb156 hg w9 hbox hb; have BK156 := Aside0.mk (hbox); have GW156 := gE hg (bO HB.out); have GE156 := gE hg (bO HB.out); replace HB := hS0 HB hb; clear hb hbox hg; obtain ⟨hcz10_0, hcz10_1, hcz10_2, hfz10_0, hfz10_1, hfz10_2⟩ := bF3 BK156.out))
       go_roundg k1
       case measure => have := HK1.out; omega
       case rel => exact ⟨(wrap64 (x10_1 + 1)), sI, H', ⟨by have := HK1.out; omega⟩, ⟨bS1 HB.out GE156.out⟩⟩
     ·rw [if_neg c5] at H; exact absurd H (by simp)
    ·rw [if_neg c4] at H; exact absurd H (by simp)
   ·rw [if_neg c3] at H; have c3b0 := decide_eq_false c3; clear c3; simp only [Option.some.injEq, Prod.mk.injEq] at H; obtain ⟨rfl, rfl⟩ := H
    go_wp2
    go_ret2
    exact ⟨eW, bO HB.out⟩

/-! ### api_Cube: function 52 -/
def api_Cube.l0 : Nat → List (S58) → List (S58) → Int → Int → Option (Bool)
 | 0, _, _, _, _ => none
 | k + 1, x0, x1, x12, x13 => if x13 < x12 then (if 0 ≤ x13 then (if x13 < (x0.length : Int) then (if x13 < (x1.length : Int) then (if (!(((rd_T58 x0 x13).f0) == ((rd_T58 x1 x13).f0)) || (!(((rd_T58 x0 x13).f1) == ((rd_T58 x1 x13).f1)) || (!(((rd_T58 x0 x13).f2) == ((rd_T58 x1 x13).f2))))) = true then (some false) else (api_Cube.l0 k x0 x1 x12 (wrap64 (x13 + 1)))) else (none)) else (none)) else (none)) else (some true)
def api_Cube.f (k : Nat) (l0 : List (S58)) (l1 : List (S58)) : Option (Bool) := if (l0.length : Int) = (l1.length : Int) then (api_Cube.l0 k l0 l1 (l0.length : Int) 0) else (some false)
theorem api_Cube.mono_l : ∀ k, (∀ y0 y1 y2 y3, LeO (api_Cube.l0 k y0 y1 y2 y3) (api_Cube.l0 (k + 1) y0 y1 y2 y3))
 | 0 => fun _ _ _ _ r h => by simp [api_Cube.l0] at h
 | k + 1 => by
  have ih0 := api_Cube.mono_l k
  ·intro y0 y1 y2 y3
   unfold api_Cube.l0
   repeat' first | (with_reducible first | exact ih0 _ _ _ _ | exact lA | apply lI | refine lB ?_ fun _ => ?_) | exact lN _ | apply lI | refine lB ?_ fun _ => ?_
theorem api_Cube.mono : ∀ a0 a1 k, LeO (api_Cube.f k a0 a1) (api_Cube.f (k + 1) a0 a1) := by
 intro a0 a1 k; have ih0 := api_Cube.mono_l k
 unfold api_Cube.f
 repeat' first | (with_reducible first | exact ih0 _ _ _ _ | exact lA | apply lI | refine lB ?_ fun _ => ?_) | exact lN _ | apply lI | refine lB ?_ fun _ => ?_
set_option maxHeartbeats 8000000 in
set_option maxRecDepth 100000 in
theorem api_Cube.calls (k : Nat) (A0 : Option Addr) (c0 : Nat) (l0 : List (S58)) (A1 : Option Addr) (c1 : Nat) (l1 : List (S58)) (r : Bool) (w : World) (hr0 : Kd.C k58 w A0 l0.length l0) (hc0 : l0.length ≤ c0) (hr1 : Kd.C k58 w A1 l1.length l1) (hc1 : l1.length ≤ c1) (h : api_Cube.f k l0 l1 = some r) :
  Calls Try.prog 52 #[.slice A0 l0.length c0, .slice A1 l1.length c1] w fun e w' => e = .returned (.bool r) ∧ Drawn0 w w' := by
 have hu58 := Try.underlying58; have HR0 := Aside0.mk hr0; have HC0 := Aside0.mk hc0; clear hr0 hc0; have HR1 := Aside0.mk hr1; have HC1 := Aside0.mk hc1; clear hr1 hc1; have H : (if (l0.length : Int) = (l1.length : Int) then (api_Cube.l0 k l0 l1 (l0.length : Int) 0) else (some false)) = some r := h; clear h
 by_cases c3 : (l0.length : Int) = (l1.length : Int)
 ·rw [if_pos c3] at H; obtain ⟨c3b0, c3b1⟩ := bq c3
  have c3b2 : (l0.length == l1.length) = true := by first | simpa using c3 | (simp at c3 ⊢; omega)
  clear c3; have H' := Aside0.mk H; clear H
  go_enter Try.func52, Try.ntmps52
  go_wp2
  repeat (go_quiet (fail); try go_wp2)
  go_loopg [13] k (fun kq v13 w' => ∃ (x13_1 : Int), v13 = .int .i64 x13_1 ∧ Aside0 (api_Cube.l0 kq l0 l1 (l0.length : Int) x13_1 = some r) ∧ Aside0 (kq ≤ k) ∧ Drawn0 w w')
  case atStart => exact ⟨(0), sI, H', ⟨Nat.le_refl _⟩, by repeat (first | exact Drawn0.refl _ | apply Drawn0.step)⟩
  case round =>
   clear H'
   try clear c1
   try clear p2
   try clear c3
   try clear c3b0
   try clear c3b1
   try clear c3b2
   obtain ⟨x13_1, rfl, HA, HK1, ⟨m1, rfl⟩⟩ := hrel; cases gk with
   | zero => exact absurd HA.out (by simp [api_Cube.l0])
   | succ k1 =>
    have H := HA.out; clear HA; simp only [api_Cube.l0] at H
    by_cases c4 : x13_1 < (l0.length : Int)
    ·rw [if_pos c4] at H; have c4b0 := decide_eq_true c4; clear c4
     by_cases c5 : 0 ≤ x13_1
     ·rw [if_pos c5] at H; have c5b0 := decide_eq_true c5; clear c5
      by_cases c6 : x13_1 < (l0.length : Int)
      ·rw [if_pos c6] at H; have c6b0 := decide_eq_true c6; clear c6
       by_cases c7 : x13_1 < (l1.length : Int)
       ·rw [if_pos c7] at H; have c7b0 := decide_eq_true c7; clear c7
        by_cases c8 : (!(((rd_T58 l0 x13_1).f0) == ((rd_T58 l1 x13_1).f0)) || (!(((rd_T58 l0 x13_1).f1) == ((rd_T58 l1 x13_1).f1)) || (!(((rd_T58 l0 x13_1).f2) == ((rd_T58 l1 x13_1).f2))))) = true
        ·rw [if_pos c8] at H; have c8b0 : (!(((rd_T58 l0 x13_1).f0) == ((rd_T58 l1 x13_1).f0)) || (!(((rd_T58 l0 x13_1).f1) == ((rd_T58 l1 x13_1).f1)) || (!(((rd_T58 l0 x13_1).f2) == ((rd_T58 l1 x13_1).f2))))) = true := c8; clear c8; obtain rfl := Option.some.inj H; have p157 : 0 ≤ (x13_1 : Int) := of_decide_eq_true aO; have q157 : x13_1 < (l0.length : Int) := of_decide_eq_true aO; obtain ⟨ad157, e157, hx157_0, hx157_1, hx157_2⟩ := at_T58 HR0.out x13_1 p157 q157; cases e157; replace p157 := eq_true p157; replace q157 := eq_true q157; have p158 : 0 ≤ (x13_1 : Int) := of_decide_eq_true aO; have q158 : x13_1 < (l1.length : Int) := of_decide_eq_true aO; obtain ⟨ad158, e158, hx158_0, hx158_1, hx158_2⟩ := at_T58 HR1.out x13_1 p158 q158; cases e158; replace p158 := eq_true p158; replace q158 := eq_true q158
         go_wp2
         repeat (go_quiet (fail); try go_wp2)
         go_ret
         exact ⟨by first | rfl | (simp; done) | (simp [*]; done), by repeat (first | exact Drawn0.refl _ | apply Drawn0.step)⟩
        ·rw [if_neg c8] at H
         have c8b0 : (!(((rd_T58 l0 x13_1).f0) == ((rd_T58 l1 x13_1).f0)) || (!(((rd_T58 l0 x13_1).f1) == ((rd_T58 l1 x13_1).f1)) || (!(((rd_T58 l0 x13_1).f2) == ((rd_T58 l1 x13_1).f2))))) = false := by simpa using c8
         clear c8; have H' := Aside0.mk H; clear H; have p157 : 0 ≤ (x13_1 : Int) := of_decide_eq_true aO; have q157 : x13_1 < (l0.length : Int) := of_decide_eq_true aO; obtain ⟨ad157, e157, hx157_0, hx157_1, hx157_2⟩ := at_T58 HR0.out x13_1 p157 q157; cases e157; replace p157 := eq_true p157; replace q157 := eq_true q157; have p158 : 0 ≤ (x13_1 : Int) := of_decide_eq_true aO; have q158 : x13_1 < (l1.length : Int) := of_decide_eq_true aO; obtain ⟨ad158, e158, hx158_0, hx158_1, hx158_2⟩ := at_T58 HR1.out x13_1 p158 q158; cases e158; replace p158 := eq_true p158; replace q158 := eq_true q158
         go_wp2
         repeat (go_quiet (fail); try go_wp2)
         go_roundg k1
         case measure => have := HK1.out; omega
         case rel => exact ⟨(wrap64 (x13_1 + 1)), sI, H', ⟨by have := HK1.out; omega⟩, by repeat (first | exact Drawn0.refl _ | apply Drawn0.step)⟩
       ·rw [if_neg c7] at H; exact absurd H (by simp)
      ·rw [if_neg c6] at H; exact absurd H (by simp)
     ·rw [if_neg c5] at H; exact absurd H (by simp)
    ·rw [if_neg c4] at H; have c4b0 := decide_eq_false c4; clear c4; obtain rfl := Option.some.inj H
     go_wp2
     repeat (go_quiet (fail); try go_wp2)
     go_ret
     exact ⟨by first | rfl | (simp; done) | (simp [*]; done), by repeat (first | exact Drawn0.refl _ | apply Drawn0.step)⟩
 ·rw [if_neg c3] at H; obtain ⟨c3b0, c3b1⟩ := bn c3
  have c3b2 : (l0.length == l1.length) = false := by first | simpa using c3 | (simp at c3 ⊢; omega)
  obtain rfl := Option.some.inj H
  go_enter Try.func52, Try.ntmps52
  go_wp2
  repeat (go_quiet (fail); try go_wp2)
  go_ret
  exact ⟨by first | rfl | (simp; done) | (simp [*]; done), by repeat (first | exact Drawn0.refl _ | apply Drawn0.step)⟩

end Go.Proofs.Ytghfclgcgecgdaa.X
namespace Go.Proofs.Ytghfclgcgecgdaa.X
open Go.RowKit Go.Proofs.YtghfclgcgecgdaaW.PrintWords Go.Proofs.YtghfclgcgecgdaaW.PrintLast Go.Proofs.YtghfclgcgecgdaaW.PrintMore
attribute [local go_sem] max2_int min2_int max_two min_two max_three min_three max_four min_four
set_option linter.unusedVariables false
set_option linter.unusedSimpArgs false

/-! ### row_Unpack: function 53 -/
mutual
def row_Unpack.j0 : Nat → List (S58) → Int → Bool → Option (List Int × Int)
 | 0, _, _, _ => none
 | k + 1, x0, x1, x18 => if x18 = true then (some (([] : List Int), 150)) else (if 0 ≤ x1 then (if (x0.length : Int) > (shl .i64 1 x1) then (some (([] : List Int), 3)) else (if 0 ≤ (shl .i64 1 x1) then (if (shl .i64 1 x1 : Int).toNat ≤ 35184372088832 then ((some (List.replicate (shl .i64 1 x1 : Int).toNat 0 : List Int)).bind fun y159 => (row_Unpack.l0 k x0 y159 (y159.length : Int) 0)) else (none)) else (none))) else (none))
def row_Unpack.l0 : Nat → List (S58) → List Int → Int → Int → Option (List Int × Int)
 | 0, _, _, _, _ => none
 | k + 1, x0, x7, x28, x29 => if x29 < x28 then ((row_At.f k x0 x29).bind fun bt162 => (if bt162.2 = true then (if 0 ≤ x29 then (if x29 < (x7.length : Int) then (row_Unpack.l0 k x0 (x7.set (x29 : Int).toNat bt162.1) x28 (wrap64 (x29 + 1))) else (none)) else (none)) else (some (([] : List Int), 3)))) else ((row_Pack.f k x7).bind fun bt165 => (if bt165.2 = 0 then ((api_Cube.f k bt165.1 x0).bind fun t169 => (if t169 = true then (some (x7, 0)) else (some (([] : List Int), 3)))) else (some (([] : List Int), 3))))
end
def row_Unpack.f (k : Nat) (l0 : List (S58)) (a1 : Int) : Option (List Int × Int) := if a1 < 0 then (row_Unpack.j0 k l0 a1 true) else (row_Unpack.j0 k l0 a1 (decide (a1 > 6)))
theorem row_Unpack.mono_l : ∀ k, (∀ y0 y1 y2, LeO (row_Unpack.j0 k y0 y1 y2) (row_Unpack.j0 (k + 1) y0 y1 y2)) ∧ (∀ y0 y1 y2 y3, LeO (row_Unpack.l0 k y0 y1 y2 y3) (row_Unpack.l0 (k + 1) y0 y1 y2 y3))
 | 0 => ⟨fun _ _ _ r h => by simp [row_Unpack.j0] at h, fun _ _ _ _ r h => by simp [row_Unpack.l0] at h⟩
 | k + 1 => by
  obtain ⟨ih0, ih1⟩ := row_Unpack.mono_l k; refine ⟨?_, ?_⟩
  ·intro y0 y1 y2
   unfold row_Unpack.j0
   repeat' first | (with_reducible first | exact ih0 _ _ _ | exact ih1 _ _ _ _ | exact api_Cube.mono _ _ _ | exact row_At.mono _ _ _ | exact row_Pack.mono _ _ | exact lA | apply lI | refine lB ?_ fun _ => ?_) | exact lN _ | apply lI | refine lB ?_ fun _ => ?_
  ·intro y0 y1 y2 y3
   unfold row_Unpack.l0
   repeat' first | (with_reducible first | exact ih0 _ _ _ | exact ih1 _ _ _ _ | exact api_Cube.mono _ _ _ | exact row_At.mono _ _ _ | exact row_Pack.mono _ _ | exact lA | apply lI | refine lB ?_ fun _ => ?_) | exact lN _ | apply lI | refine lB ?_ fun _ => ?_
theorem row_Unpack.mono : ∀ a0 a1 k, LeO (row_Unpack.f k a0 a1) (row_Unpack.f (k + 1) a0 a1) := by
 intro a0 a1 k; obtain ⟨ih0, ih1⟩ := row_Unpack.mono_l k
 unfold row_Unpack.f
 repeat' first | (with_reducible first | exact ih0 _ _ _ | exact ih1 _ _ _ _ | exact api_Cube.mono _ _ _ | exact row_At.mono _ _ _ | exact row_Pack.mono _ _ | exact lA | apply lI | refine lB ?_ fun _ => ?_) | exact lN _ | apply lI | refine lB ?_ fun _ => ?_
set_option maxHeartbeats 8000000 in
set_option maxRecDepth 100000 in
theorem row_Unpack.calls (k : Nat) (A0 : Option Addr) (c0 : Nat) (l0 : List (S58)) (a1 : Int) (r1 : List Int) (r2 : Int) (w : World) (hr0 : Kd.C k58 w A0 l0.length l0) (hc0 : l0.length ≤ c0) (h : row_Unpack.f k l0 a1 = some (r1, r2)) :
  Calls Try.prog 53 #[.slice A0 l0.length c0, .int .i64 a1] w fun e w' => ∃ v0_ : Value, e = .returned (.tuple #[v0_, .int .i64 r2]) ∧ Kd.R (Kd.int .i64) 3 w' w.heap.size (fun _ => True) v0_ r1 ∧ Below w.heap.size w w' := by
 have HR0 := Aside0.mk hr0; have HC0 := Aside0.mk hc0; clear hr0 hc0; have HB := Aside0.mk (Below.refl w.heap.size w); have H : (if a1 < 0 then (row_Unpack.j0 k l0 a1 true) else (row_Unpack.j0 k l0 a1 (decide (a1 > 6)))) = some (r1, r2) := h; clear h; have HC3 := Aside0.mk H; clear H
 go_enter Try.func53, Try.ntmps53
 go_upto_region 1 with (fail)
 go_cut [18] (fun v18 wc => ∃ (kq : Nat) (x18_2 : Bool), v18 = .bool x18_2 ∧ Aside0 (row_Unpack.j0 kq l0 a1 x18_2 = some (r1, r2)) ∧ Aside0 (kq ≤ k) ∧ Aside0 (Below w.heap.size w wc))
 case first =>
  have H := HC3.out; clear HC3
  by_cases c4 : a1 < 0
  ·rw [if_pos c4] at H; have c4b0 := decide_eq_true c4; clear c4
   (first | rw [c4b0] | (simp only [i64_w, i32_w]; rw [c4b0]) | skip)
   have H' := Aside0.mk H; clear H
   go_wp2
   go_meet
   case rel => exact ⟨_, (true), sI, H', ⟨by first | omega | exact Nat.le_refl _⟩, ⟨bO HB.out⟩⟩
  ·rw [if_neg c4] at H; have c4b0 := decide_eq_false c4; clear c4
   (first | rw [c4b0] | (simp only [i64_w, i32_w]; rw [c4b0]) | skip)
   have H' := Aside0.mk H; clear H
   go_wp2
   go_meet
   case rel => exact ⟨_, (decide (a1 > 6)), sI, H', ⟨by first | omega | exact Nat.le_refl _⟩, ⟨bO HB.out⟩⟩
 case rest =>
  clear HC3
  try clear p2
  try clear c4
  try clear c4b0
  obtain ⟨kq, x18_2, rfl, HA, HJ2, HB⟩ := hcut; cases kq with
  | zero => exact absurd HA.out (by simp [row_Unpack.j0])
  | succ kj2 =>
   have H := HA.out; clear HA; simp only [row_Unpack.j0] at H
   by_cases c5 : x18_2 = true
   ·subst c5
    have H1 : (some (([] : List Int), 150)) = some (r1, r2) := by rw [if_pos rfl] at H; exact H
    clear H; have H := H1; clear H1; simp only [Option.some.injEq, Prod.mk.injEq] at H; obtain ⟨rfl, rfl⟩ := H
    go_wp2
    go_ret2
    exact ⟨_, eW, by first | exact Kd.R_nil _ _ _ _ _ | exact Kd.N_nil _ _ _ _ _ | exact Kd.V_nil _ _ _ _ _ | exact Kd.Q_nil _ _ _ _ _ | exact Kd.S_nil _ _ _ _ _, bO HB.out⟩
   ·replace c5 := Bool.eq_false_iff.mpr c5; subst c5
    have H1 : (if 0 ≤ a1 then (if (l0.length : Int) > (shl .i64 1 a1) then (some (([] : List Int), 3)) else (if 0 ≤ (shl .i64 1 a1) then (if (shl .i64 1 a1 : Int).toNat ≤ 35184372088832 then ((some (List.replicate (shl .i64 1 a1 : Int).toNat 0 : List Int)).bind fun y159 => (row_Unpack.l0 kj2 l0 y159 (y159.length : Int) 0)) else (none)) else (none))) else (none)) = some (r1, r2) := by rw [if_neg (show ¬ (false = true) by decide)] at H; exact H
    clear H; have H := H1; clear H1
    by_cases c6 : 0 ≤ a1
    ·rw [if_pos c6] at H; have c6b0 := eq_true c6; have c6b1 := decide_eq_true c6; clear c6; obtain ⟨ji7, hji7⟩ : ∃ j_ : Int, (shl .i64 1 a1) = j_ := ⟨_, rfl⟩
     replace H : (if (l0.length : Int) > (ji7) then (some (([] : List Int), 3)) else (if 0 ≤ (ji7) then (if (ji7 : Int).toNat ≤ 35184372088832 then ((some (List.replicate (ji7 : Int).toNat 0 : List Int)).bind fun y159 => (row_Unpack.l0 kj2 l0 y159 (y159.length : Int) 0)) else (none)) else (none))) = some (r1, r2) := by first | (rw [hji7] at H; exact H) | (simp only [hji7] at H ⊢; exact H)
     have hji7_ : (IntKind.i64.wrap (1 * 2 ^ min a1.toNat 64)) = ji7 := hji7; have hji7z : a1 ≤ 64 → (IntKind.i64.wrap (1 * 2 ^ a1.toNat)) = ji7 := shl_small hji7
     have hji7u : (IntKind.i64.wrap (2 ^ min a1.toNat 64)) = ji7 := by have h_ := hji7_; rw [Int.one_mul] at h_; exact h_
     have hji7v : a1 ≤ 64 → (IntKind.i64.wrap (2 ^ a1.toNat)) = ji7 := fun hle_ => by have h_ := hji7z hle_; rw [Int.one_mul] at h_; exact h_
     have hji7y : (wrap64 (1 * 2 ^ min a1.toNat 64)) = ji7 := (i64_w _).symm.trans hji7_
     have hji7x : a1 ≤ 64 → (wrap64 (1 * 2 ^ a1.toNat)) = ji7 := fun h_ => (i64_w _).symm.trans (hji7z h_)
     by_cases c8 : (l0.length : Int) > (ji7)
     ·rw [if_pos c8] at H; have c8b0 := decide_eq_true c8; clear c8; simp only [Option.some.injEq, Prod.mk.injEq] at H; obtain ⟨rfl, rfl⟩ := H
      go_wp2
      go_ret2
      exact ⟨_, by first | rfl | (simp [errW_none, errW_some] <;> rfl) | (simp only [← hji7]; first | rfl | (simp [errW_none, errW_some] <;> rfl)) | (simp [*, errW_none, errW_some] <;> rfl), by first | exact Kd.R_nil _ _ _ _ _ | exact Kd.N_nil _ _ _ _ _ | exact Kd.V_nil _ _ _ _ _ | exact Kd.Q_nil _ _ _ _ _ | exact Kd.S_nil _ _ _ _ _, bO HB.out⟩
     ·rw [if_neg c8] at H; have c8b0 := decide_eq_false c8; clear c8
      by_cases c9 : 0 ≤ (ji7)
      ·rw [if_pos c9] at H; have c9b0 := eq_true c9; have c9b1 := decide_eq_true c9; clear c9
       by_cases c10 : (ji7 : Int).toNat ≤ 35184372088832
       ·rw [if_pos c10] at H; have c10b0 := eq_true c10; have c10b1 := decide_eq_true c10; clear c10; obtain ⟨y159, hy159⟩ : ∃ y_ : List Int, y_ = (List.replicate (ji7 : Int).toNat 0) := ⟨_, rfl⟩
        replace H : (row_Unpack.l0 kj2 l0 y159 (y159.length : Int) 0) = some (r1, r2) := rH hy159 H
        have Ny159 := Aside0.mk hy159; clear hy159; have H' := Aside0.mk H; clear H
        go_wp2_with (first | ((with_reducible refine gate_dst (N := 26) rfl ?_); refine Kd.R_make (Kd.int .i64) _ 3 rfl (N := 26) rfl 29 _ _ rfl ji7 rfl rfl Try.underlying29 (.int .i64 0) 8 info3 rfl (by decide) (by omega) 0 (ok := fun _ => True) (okp := fun _ => True) rfl (fun _ hk => hk) trivial (of_decide_eq_true aO) (Nat.le_trans (Nat.mul_le_mul_right _ (of_decide_eq_true aO : ji7.toNat ≤ 35184372088832)) (by omega)) (Below.refl _ _) (Nat.le_refl _) ?_; intro v160 w11 ho12 hb hg_ hnew_; clear hg_ hnew_; (first | rw [← Ny159.out] at ho12 | (simp only [Int.reduceToNat] at ho12; rw [← Ny159.out] at ho12)); have HO161 := rW ho12 (bO HB.out); replace HB := hS0 HB hb; clear hb ho12; obtain ⟨Ao13, co13, eo13⟩ := Kd.R_slice HO161.out; subst eo13))
        go_loopg [29] kj2 (fun kq v29 w' => ∃ (x7_2 : List Int) (x29_2 : Int), v29 = .int .i64 x29_2 ∧ Aside0 (row_Unpack.l0 kq l0 x7_2 (y159.length : Int) x29_2 = some (r1, r2)) ∧ Aside0 (kq ≤ kj2) ∧ Aside0 (Kd.R (Kd.int .i64) 3 w' w.heap.size (fun _ => True) (.slice Ao13 y159.length co13) x7_2) ∧ Aside0 (Below w.heap.size w w'))
        case atStart => exact ⟨(y159), (0), sI, H', ⟨Nat.le_refl _⟩, ⟨rO HO161.out⟩, ⟨bO HB.out⟩⟩
        case round =>
         clear H'
         try clear c1
         try clear p2
         try clear c4
         try clear c4b0
         try clear c5
         try clear c6
         try clear c6b0
         try clear c6b1
         try clear p6
         try clear c8
         try clear c8b0
         try clear c9
         try clear c9b0
         try clear c9b1
         try clear c10
         try clear c10b0
         try clear c10b1
         try clear p2
         obtain ⟨x7_2, x29_2, rfl, HA, HK2, HO_7, HB⟩ := hrel; have hl7_2 := (Kd.R_reads' HO_7.out).1; rw [hl7_2] at HO_7
         (try simp only [hl7_2])
         cases gk with
         | zero => exact absurd HA.out (by simp [row_Unpack.l0])
         | succ k2 =>
          have H := HA.out; clear HA; simp only [row_Unpack.l0] at H
          by_cases c14 : x29_2 < (y159.length : Int)
          ·rw [if_pos c14] at H; have c14b0 := decide_eq_true c14
           (try (have c14b0hl7_2 := c14b0; rw [hl7_2] at c14b0hl7_2))
           clear c14; replace H := Option.bind_eq_some_iff.mp H; obtain ⟨⟨t162, t163⟩, A150, H⟩ := H; replace H : (if t163 = true then (if 0 ≤ x29_2 then (if x29_2 < (x7_2.length : Int) then (row_Unpack.l0 k2 l0 (x7_2.set (x29_2 : Int).toNat t162) (y159.length : Int) (wrap64 (x29_2 + 1))) else (none)) else (none)) else (some (([] : List Int), 3))) = some (r1, r2) := H; have A15 := Aside0.mk A150; clear A150
           by_cases c16 : t163 = true
           ·subst c16
            have H1 : (if 0 ≤ x29_2 then (if x29_2 < (x7_2.length : Int) then (row_Unpack.l0 k2 l0 (x7_2.set (x29_2 : Int).toNat t162) (y159.length : Int) (wrap64 (x29_2 + 1))) else (none)) else (none)) = some (r1, r2) := by rw [if_pos rfl] at H; exact H
            clear H; have H := H1; clear H1
            by_cases c17 : 0 ≤ x29_2
            ·rw [if_pos c17] at H; have c17b0 := decide_eq_true c17; clear c17
             by_cases c18 : x29_2 < (x7_2.length : Int)
             ·rw [if_pos c18] at H; have c18b0 := decide_eq_true c18
              (try (have c18b0hl7_2 := c18b0; rw [hl7_2] at c18b0hl7_2))
              clear c18; obtain ⟨y164, hy164⟩ : ∃ y_ : List Int, y_ = (x7_2.set (x29_2 : Int).toNat t162) := ⟨_, rfl⟩
              replace H : (row_Unpack.l0 k2 l0 y164 (y159.length : Int) (wrap64 (x29_2 + 1))) = some (r1, r2) := rH hy164 H
              have Ny164 := Aside0.mk hy164; clear hy164; have H' := Aside0.mk H; clear H
              go_wp2_with (first | ((with_reducible refine gate_callee (f := 47) rfl ?_); refine gL_ (some 35) Try.func47 #[.slice A0 l0.length c0, .int .i64 x29_2] ?_; (with_reducible refine (row_At.calls k2 _ _ l0 x29_2 t162 true _ ?s1 ?s2 A15.out).mono ?_); (case s1 => exact cB HR0 HB); (case s2 => exact HC0.out); rintro e w20 ⟨rfl, hb⟩; refine ⟨_, rfl, ?_⟩; replace HO_7 := rB HO_7 hb; replace HB := hS0 HB hb; (try clear hb); (try clear hb2); (try clear hk); (try clear hi); have p19 : 0 ≤ (x29_2 : Int) := of_decide_eq_true aO; have q19 : (x29_2 : Int) < ((x7_2.length : Int) : Int) := of_decide_eq_true aO; obtain ⟨go19, co19, eo19, gb19, gl19, cl19, HG19⟩ := Kd.R_form HO_7.out (by omega); (first | cases eo19 | (injection eo19 with ea_ en_ ec_; (first | subst ea_ | (injection ea_ with ea_; subst ea_)); subst ec_; clear en_)); have GB19 := Aside0.mk gb19; have GG19 := Aside0.mk HG19; clear gb19 gl19 HG19; obtain ⟨hx19_0, hf19_0⟩ := Kd.R_celln 0 HO_7.out (x29_2 : Int) p19 q19; replace p19 := eq_true p19; replace q19 := eq_true q19; obtain ⟨hy21_, hz21_⟩ := Kd.R_celln 0 HO_7.out (x29_2 : Int) (of_decide_eq_true aO) (of_decide_eq_true aO); have HP21 := Kd.R_putg HO_7.out (x29_2 : Int) t162) | ((with_reducible refine gate_store (t := 3) (p := 43) rfl ?_); refine store_event (t := 3) (p := 43) (v := ?vo_w22) (w1 := (w20.setCell ⟨go19, (x29_2 : Int).toNat, none⟩ (.int .i64 t162))) ?hg ?ho ?hn ?hr ?_; (case ho => rfl); (case hg => rfl); (case hn => rfl); (case hr => first | (go_simp; done) | (go_simp; rfl)); intro w22 hw; have hg : w20.grownBy w22 (some go19) := (by rw [hw]; exact HP21.2); have hp_ : Kd.R (Kd.int .i64) 3 w22 w.heap.size (fun _ => True) (.slice (some ⟨go19, 0, none⟩) x7_2.length co13) y164 := (by rw [hw, Ny164.out]; exact HP21.1); clear HP21; replace HO_7 := Aside0.mk (hp_); replace HB := Aside0.mk ((by rw [hw]; exact below_set (HB.out) GB19.out : Below w.heap.size w w22)); clear hg hw hp_))
              (try simp only [← hl7_2])
              go_roundg k2
              case measure => have := HJ2.out; have := HK2.out; omega
              case rel => exact ⟨(y164), (wrap64 (x29_2 + 1)), sI, H', ⟨by have := HJ2.out; have := HK2.out; omega⟩, ⟨by (try simp only [hl7_2]); (with_reducible repeat (first | apply Kd.R_alloc | apply Kd.R_drewN | apply Kd.R_drew)); exact HO_7.out⟩, ⟨bO HB.out⟩⟩
             ·rw [if_neg c18] at H; exact absurd H (by simp)
            ·rw [if_neg c17] at H; exact absurd H (by simp)
           ·replace c16 := Bool.eq_false_iff.mpr c16; subst c16
            have H1 : (some (([] : List Int), 3)) = some (r1, r2) := by rw [if_neg (show ¬ (false = true) by decide)] at H; exact H
            clear H; have H := H1; clear H1; simp only [Option.some.injEq, Prod.mk.injEq] at H; obtain ⟨rfl, rfl⟩ := H
            go_wp2_with (first | ((with_reducible refine gate_callee (f := 47) rfl ?_); refine gL_ (some 35) Try.func47 #[.slice A0 l0.length c0, .int .i64 x29_2] ?_; (with_reducible refine (row_At.calls k2 _ _ l0 x29_2 t162 false _ ?s1 ?s2 A15.out).mono ?_); (case s1 => exact cB HR0 HB); (case s2 => exact HC0.out); rintro e w23 ⟨rfl, hb⟩; refine ⟨_, rfl, ?_⟩; replace HO_7 := rB HO_7 hb; replace HB := hS0 HB hb; (try clear hb); (try clear hb2); (try clear hk); (try clear hi)))
            go_ret2
            exact ⟨_, by first | rfl | (simp [errW_none, errW_some] <;> rfl) | (simp only [← hji7]; first | rfl | (simp [errW_none, errW_some] <;> rfl)) | (simp [*, errW_none, errW_some] <;> rfl), by first | exact Kd.R_nil _ _ _ _ _ | exact Kd.N_nil _ _ _ _ _ | exact Kd.V_nil _ _ _ _ _ | exact Kd.Q_nil _ _ _ _ _ | exact Kd.S_nil _ _ _ _ _, bO HB.out⟩
          ·rw [if_neg c14] at H; have c14b0 := decide_eq_false c14
           (try (have c14b0hl7_2 := c14b0; rw [hl7_2] at c14b0hl7_2))
           clear c14; replace H := Option.bind_eq_some_iff.mp H; obtain ⟨⟨t165, t166⟩, A240, H⟩ := H; replace H : (if t166 = 0 then ((api_Cube.f k2 t165 l0).bind fun t169 => (if t169 = true then (some (x7_2, 0)) else (some (([] : List Int), 3)))) else (some (([] : List Int), 3))) = some (r1, r2) := H; have A24 := Aside0.mk A240; clear A240
           by_cases c25 : t166 = 0
           ·rw [if_pos c25] at H; obtain ⟨c25b0, c25b1⟩ := bq c25; clear c25; replace H := Option.bind_eq_some_iff.mp H; obtain ⟨t169, A260, H⟩ := H; replace H : (if t169 = true then (some (x7_2, 0)) else (some (([] : List Int), 3))) = some (r1, r2) := H; have A26 := Aside0.mk A260; clear A260
            by_cases c27 : t169 = true
            ·subst c27
             have H1 : (some (x7_2, 0)) = some (r1, r2) := by rw [if_pos rfl] at H; exact H
             clear H; have H := H1; clear H1; simp only [Option.some.injEq, Prod.mk.injEq] at H; obtain ⟨rfl, rfl⟩ := H
             go_wp2_with (first | ((with_reducible refine gate_callee (f := 36) rfl ?_); refine gL_ (some 47) Try.func36 #[.slice Ao13 x7_2.length co13] ?_; (with_reducible refine (row_Pack.calls k2 _ _ x7_2 t165 t166 _ ?s1 ?s2 A24.out).mono ?_); (case s1 => exact cO (Kd.R_reads' HO_7.out).2.2); (case s2 => exact (Kd.R_reads' HO_7.out).2.1); rintro e w28 ⟨v167, rfl, ho0, hb⟩; refine ⟨_, rfl, ?_⟩; replace HO_7 := rB HO_7 hb; have HO168 := rW ho0 (bO HB.out); replace HB := hS0 HB hb; (try clear hb); (try clear hb2); (try clear hk); (try clear hi); (try clear ho0); obtain ⟨Ao29, co29, eo29⟩ := Kd.R_slice HO168.out; subst eo29) | (go_at_call 52; (with_reducible refine (api_Cube.calls k2 _ _ t165 _ _ l0 true _ ?s1 ?s2 ?s3 ?s4 A26.out).mono ?_); (case s1 => exact cO (Kd.R_reads' HO168.out).2.2); (case s2 => exact (Kd.R_reads' HO168.out).2.1); (case s3 => exact cB HR0 HB); (case s4 => exact HC0.out); rintro e w' ⟨rfl, ⟨nd, rfl⟩⟩))
             go_ret2
             exact ⟨_, by first | rfl | (simp [errW_none, errW_some] <;> rfl) | (simp only [← hji7]; first | rfl | (simp [errW_none, errW_some] <;> rfl)) | (simp [*, errW_none, errW_some] <;> rfl), rO HO_7.out, bO HB.out⟩
            ·replace c27 := Bool.eq_false_iff.mpr c27; subst c27
             have H1 : (some (([] : List Int), 3)) = some (r1, r2) := by rw [if_neg (show ¬ (false = true) by decide)] at H; exact H
             clear H; have H := H1; clear H1; simp only [Option.some.injEq, Prod.mk.injEq] at H; obtain ⟨rfl, rfl⟩ := H
             go_wp2_with (first | ((with_reducible refine gate_callee (f := 36) rfl ?_); refine gL_ (some 47) Try.func36 #[.slice Ao13 x7_2.length co13] ?_; (with_reducible refine (row_Pack.calls k2 _ _ x7_2 t165 t166 _ ?s1 ?s2 A24.out).mono ?_); (case s1 => exact cO (Kd.R_reads' HO_7.out).2.2); (case s2 => exact (Kd.R_reads' HO_7.out).2.1); rintro e w30 ⟨v167, rfl, ho0, hb⟩; refine ⟨_, rfl, ?_⟩; replace HO_7 := rB HO_7 hb; have HO168 := rW ho0 (bO HB.out); replace HB := hS0 HB hb; (try clear hb); (try clear hb2); (try clear hk); (try clear hi); (try clear ho0); obtain ⟨Ao31, co31, eo31⟩ := Kd.R_slice HO168.out; subst eo31) | (go_at_call 52; (with_reducible refine (api_Cube.calls k2 _ _ t165 _ _ l0 false _ ?s1 ?s2 ?s3 ?s4 A26.out).mono ?_); (case s1 => exact cO (Kd.R_reads' HO168.out).2.2); (case s2 => exact (Kd.R_reads' HO168.out).2.1); (case s3 => exact cB HR0 HB); (case s4 => exact HC0.out); rintro e w' ⟨rfl, ⟨nd, rfl⟩⟩))
             go_ret2
             exact ⟨_, by first | rfl | (simp [errW_none, errW_some] <;> rfl) | (simp only [← hji7]; first | rfl | (simp [errW_none, errW_some] <;> rfl)) | (simp [*, errW_none, errW_some] <;> rfl), by first | exact Kd.R_nil _ _ _ _ _ | exact Kd.N_nil _ _ _ _ _ | exact Kd.V_nil _ _ _ _ _ | exact Kd.Q_nil _ _ _ _ _ | exact Kd.S_nil _ _ _ _ _, bO HB.out⟩
           ·rw [if_neg c25] at H; obtain ⟨c25b0, c25b1⟩ := bn c25; simp only [Option.some.injEq, Prod.mk.injEq] at H; obtain ⟨rfl, rfl⟩ := H
            go_wp2_with (first | ((with_reducible refine gate_callee (f := 36) rfl ?_); refine gL_ (some 47) Try.func36 #[.slice Ao13 x7_2.length co13] ?_; (with_reducible refine (row_Pack.calls k2 _ _ x7_2 t165 t166 _ ?s1 ?s2 A24.out).mono ?_); (case s1 => exact cO (Kd.R_reads' HO_7.out).2.2); (case s2 => exact (Kd.R_reads' HO_7.out).2.1); rintro e w32 ⟨v167, rfl, ho0, hb⟩; refine ⟨_, rfl, ?_⟩; replace HO_7 := rB HO_7 hb; have HO168 := rW ho0 (bO HB.out); replace HB := hS0 HB hb; (try clear hb); (try clear hb2); (try clear hk); (try clear hi); (try clear ho0)))
            go_ret2
            exact ⟨_, by first | rfl | (simp [errW_none, errW_some] <;> rfl) | (simp only [← hji7]; first | rfl | (simp [errW_none, errW_some] <;> rfl)) | (simp [*, errW_none, errW_some] <;> rfl), by first | exact Kd.R_nil _ _ _ _ _ | exact Kd.N_nil _ _ _ _ _ | exact Kd.V_nil _ _ _ _ _ | exact Kd.Q_nil _ _ _ _ _ | exact Kd.S_nil _ _ _ _ _, bO HB.out⟩
       ·rw [if_neg c10] at H; exact absurd H (by simp)
      ·rw [if_neg c9] at H; exact absurd H (by simp)
    ·rw [if_neg c6] at H; exact absurd H (by simp)

end Go.Proofs.Ytghfclgcgecgdaa.X
namespace Go.Proofs.Ytghfclgcgecgdaa.X
open Go.RowKit Go.Proofs.YtghfclgcgecgdaaW.PrintWords Go.Proofs.YtghfclgcgecgdaaW.PrintLast Go.Proofs.YtghfclgcgecgdaaW.PrintMore
attribute [local go_sem] max2_int min2_int max_two min_two max_three min_three max_four min_four
set_option linter.unusedVariables false
set_option linter.unusedSimpArgs false

/-! ### row_Right: function 55 -/
def row_Right.f (k : Nat) (l0 : List (S58)) (a1 : Int) (a2 : Int) : Option (Bool) := (row_Unpack.f k l0 a1).bind fun bt170 => (if bt170.2 = 0 then ((slices_Max_int_int.f k bt170.1).bind fun t174 => (some (decide (t174 < a2)))) else (some false))
theorem row_Right.mono : ∀ a0 a1 a2 k, LeO (row_Right.f k a0 a1 a2) (row_Right.f (k + 1) a0 a1 a2) := by
 intro a0 a1 a2 k
 unfold row_Right.f
 repeat' first | (with_reducible first | exact row_Unpack.mono _ _ _ | exact slices_Max_int_int.mono _ _ | exact lA | apply lI | refine lB ?_ fun _ => ?_) | exact lN _ | apply lI | refine lB ?_ fun _ => ?_
set_option maxHeartbeats 8000000 in
set_option maxRecDepth 100000 in
theorem row_Right.calls (k : Nat) (A0 : Option Addr) (c0 : Nat) (l0 : List (S58)) (a1 : Int) (a2 : Int) (r : Bool) (w : World) (hr0 : Kd.C k58 w A0 l0.length l0) (hc0 : l0.length ≤ c0) (h : row_Right.f k l0 a1 a2 = some r) :
  Calls Try.prog 55 #[.slice A0 l0.length c0, .int .i64 a1, .int .i64 a2] w fun e w' => e = .returned (.bool r) ∧ Below w.heap.size w w' := by
 have HR0 := Aside0.mk hr0; have HC0 := Aside0.mk hc0; clear hr0 hc0; have HB := Aside0.mk (Below.refl w.heap.size w); have H : ((row_Unpack.f k l0 a1).bind fun bt170 => (if bt170.2 = 0 then ((slices_Max_int_int.f k bt170.1).bind fun t174 => (some (decide (t174 < a2)))) else (some false))) = some r := h; clear h; replace H := Option.bind_eq_some_iff.mp H; obtain ⟨⟨t170, t171⟩, A40, H⟩ := H; replace H : (if t171 = 0 then ((slices_Max_int_int.f k t170).bind fun t174 => (some (decide (t174 < a2)))) else (some false)) = some r := H; have A4 := Aside0.mk A40; clear A40
 by_cases c5 : t171 = 0
 ·rw [if_pos c5] at H; obtain ⟨c5b0, c5b1⟩ := bq c5; clear c5; replace H := Option.bind_eq_some_iff.mp H; obtain ⟨t174, A60, H⟩ := H; replace H : (some (decide (t174 < a2))) = some r := H; have A6 := Aside0.mk A60; clear A60; obtain rfl := Option.some.inj H
  go_enter Try.func55, Try.ntmps55
  go_wp2_with (first | ((with_reducible refine gate_callee (f := 53) rfl ?_); refine gL_ (some 12) Try.func53 #[.slice A0 l0.length c0, .int .i64 a1] ?_; (with_reducible refine (row_Unpack.calls k _ _ l0 a1 t170 t171 _ ?s1 ?s2 A4.out).mono ?_); (case s1 => exact cO HR0.out); (case s2 => exact HC0.out); rintro e w7 ⟨v172, rfl, ho0, hb⟩; refine ⟨_, rfl, ?_⟩; have HO173 := rW ho0 (bO HB.out); replace HB := hS0 HB hb; (try clear hb); (try clear hb2); (try clear hk); (try clear hi); (try clear ho0); obtain ⟨Ao8, co8, eo8⟩ := Kd.R_slice HO173.out; subst eo8) | (go_at_call 40; (with_reducible refine (slices_Max_int_int.calls k _ _ t170 t174 _ ?s1 ?s2 A6.out).mono ?_); (case s1 => exact cO (Kd.R_reads' HO173.out).2.2); (case s2 => exact (Kd.R_reads' HO173.out).2.1); rintro e w9 ⟨rfl, hb⟩; replace HO173 := rB HO173 hb; replace HB := hS0 HB hb; (try clear hb); (try clear hb2); (try clear hk); (try clear hi)))
  go_ret
  exact ⟨eW, bO HB.out⟩
 ·rw [if_neg c5] at H; obtain ⟨c5b0, c5b1⟩ := bn c5; obtain rfl := Option.some.inj H
  go_enter Try.func55, Try.ntmps55
  go_wp2_with (first | ((with_reducible refine gate_callee (f := 53) rfl ?_); refine gL_ (some 12) Try.func53 #[.slice A0 l0.length c0, .int .i64 a1] ?_; (with_reducible refine (row_Unpack.calls k _ _ l0 a1 t170 t171 _ ?s1 ?s2 A4.out).mono ?_); (case s1 => exact cO HR0.out); (case s2 => exact HC0.out); rintro e w10 ⟨v172, rfl, ho0, hb⟩; refine ⟨_, rfl, ?_⟩; have HO173 := rW ho0 (bO HB.out); replace HB := hS0 HB hb; (try clear hb); (try clear hb2); (try clear hk); (try clear hi); (try clear ho0)))
  go_ret
  exact ⟨eW, bO HB.out⟩

end Go.Proofs.Ytghfclgcgecgdaa.X
