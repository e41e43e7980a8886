/- What the functions of this seat compute, and that the program's calls come to just that: written by this session's own program out of the translation; no condition. -/
import Derived.Test.YtghfclgcgecgdaaX0
namespace Go.Proofs.Ytghfclgcgecgdaa.X
open Go.RowKit Go.Proofs.YtghfclgcgecgdaaW.PrintWords Go.Proofs.YtghfclgcgecgdaaW.PrintLast Go.Proofs.YtghfclgcgecgdaaW.PrintMore
attribute [local go_sem] max2_int min2_int max_two min_two max_three min_three max_four min_four   -- for this text's walks alone
set_option linter.unusedVariables false
set_option linter.unusedSimpArgs false

/-! ### table_rowOf: function 48 -/
def table_rowOf.f (l0_0 : List ByteArray) (l0_1 : List Bool) (l0_2 : List Int) (l0_3 : List (S58)) (a1 : Int) : Option ((List (S58))) := if 0 ≤ a1 then (if a1 < (l0_2.length : Int) then (if 0 ≤ (wrap64 (a1 + 1)) then (if (wrap64 (a1 + 1)) < (l0_2.length : Int) then (if 0 ≤ (rd l0_2 a1) then (if (rd l0_2 a1) ≤ (rd l0_2 (wrap64 (a1 + 1))) then (if (rd l0_2 (wrap64 (a1 + 1))) ≤ (l0_3.length : Int) then (some ((l0_3.take ((rd l0_2 (wrap64 (a1 + 1))) : Int).toNat).drop ((rd l0_2 a1) : Int).toNat)) else (none)) else (none)) else (none)) else (none)) else (none)) else (none)) else (none)
set_option maxHeartbeats 8000000 in
set_option maxRecDepth 100000 in
theorem table_rowOf.calls (A0_0 : Option Addr) (c0_0 : Nat) (l0_0 : List ByteArray) (A0_1 : Option Addr) (c0_1 : Nat) (l0_1 : List Bool) (A0_2 : Option Addr) (c0_2 : Nat) (l0_2 : List Int) (P0_3_ : Nat → Prop) (A0_3 : Option Addr) (c0_3 : Nat) (l0_3 : List (S58)) (a1 : Int) (r : List (S58)) (w : World) (hr0_0 : Kd.C Kd.string w A0_0 l0_0.length l0_0) (hc0_0 : l0_0.length ≤ c0_0) (hr0_1 : Kd.C Kd.bool w A0_1 l0_1.length l0_1) (hc0_1 : l0_1.length ≤ c0_1) (hr0_2 : Kd.C (Kd.int .i64) w A0_2 l0_2.length l0_2) (hc0_2 : l0_2.length ≤ c0_2) (hs0_3 : Kd.V k58 58 w w.heap.size (fun k_ => P0_3_ k_) (.slice A0_3 l0_3.length c0_3) l0_3) (h : table_rowOf.f l0_0 l0_1 l0_2 l0_3 a1 = some r) :
  Calls Try.prog 48 #[.agg #[.slice A0_0 l0_0.length c0_0, .slice A0_1 l0_1.length c0_1, .slice A0_2 l0_2.length c0_2, .slice A0_3 l0_3.length c0_3], .int .i64 a1] w fun e w' => ∃ v0_ : Value, e = .returned (v0_) ∧ Kd.V k58 58 w' w.heap.size (fun k_ => (P0_3_ k_ ∨ w.heap.size ≤ k_)) v0_ r ∧ Below w.heap.size w w' := by
 have hu32 := Try.underlying32; have HR0_0 := Aside0.mk hr0_0; have HC0_0 := Aside0.mk hc0_0; clear hr0_0 hc0_0; have HR0_1 := Aside0.mk hr0_1; have HC0_1 := Aside0.mk hc0_1; clear hr0_1 hc0_1; have HR0_2 := Aside0.mk hr0_2; have HC0_2 := Aside0.mk hc0_2; clear hr0_2 hc0_2; have HO0_3 := Aside0.mk (show Kd.V k58 58 w w.heap.size (fun k_ => (P0_3_ k_ ∨ w.heap.size ≤ k_)) (.slice A0_3 l0_3.length c0_3) l0_3 from Kd.V_mono hs0_3 (fun k_ hk => .inl hk)); have HB := Aside0.mk (Below.refl w.heap.size w); have H : (if 0 ≤ a1 then (if a1 < (l0_2.length : Int) then (if 0 ≤ (wrap64 (a1 + 1)) then (if (wrap64 (a1 + 1)) < (l0_2.length : Int) then (if 0 ≤ (rd l0_2 a1) then (if (rd l0_2 a1) ≤ (rd l0_2 (wrap64 (a1 + 1))) then (if (rd l0_2 (wrap64 (a1 + 1))) ≤ (l0_3.length : Int) then (some ((l0_3.take ((rd l0_2 (wrap64 (a1 + 1))) : Int).toNat).drop ((rd l0_2 a1) : Int).toNat)) else (none)) else (none)) else (none)) else (none)) else (none)) else (none)) else (none)) = some r := h; clear h
 by_cases c3 : 0 ≤ a1
 ·rw [if_pos c3] at H; have c3b0 : decide (0 ≤ a1) = true := decide_eq_true c3; clear c3
  by_cases c4 : a1 < (l0_2.length : Int)
  ·rw [if_pos c4] at H; have c4b0 : decide (a1 < (l0_2.length : Int)) = true := decide_eq_true c4; clear c4; obtain ⟨ji5, hji5⟩ : ∃ j_ : Int, (wrap64 (a1 + 1)) = j_ := ⟨_, rfl⟩
   replace H : (if 0 ≤ (ji5) then (if (ji5) < (l0_2.length : Int) then (if 0 ≤ (rd l0_2 a1) then (if (rd l0_2 a1) ≤ (rd l0_2 (ji5)) then (if (rd l0_2 (ji5)) ≤ (l0_3.length : Int) then (some ((l0_3.take ((rd l0_2 (ji5)) : Int).toNat).drop ((rd l0_2 a1) : Int).toNat)) else (none)) else (none)) else (none)) else (none)) else (none)) = some r := by first | (rw [hji5] at H; exact H) | (simp only [hji5] at H ⊢; exact H)
   have hji5w : (IntKind.i64.wrap (a1 + 1)) = ji5 := (i64_w _).trans hji5
   by_cases c6 : 0 ≤ (ji5)
   ·rw [if_pos c6] at H; have c6b0 : decide (0 ≤ (ji5)) = true := decide_eq_true c6; clear c6
    by_cases c7 : (ji5) < (l0_2.length : Int)
    ·rw [if_pos c7] at H; have c7b0 : decide ((ji5) < (l0_2.length : Int)) = true := decide_eq_true c7; clear c7
     by_cases c8 : 0 ≤ (rd l0_2 a1)
     ·rw [if_pos c8] at H; have c8b0 := eq_true c8; have c8b1 : decide (0 ≤ (rd l0_2 a1)) = true := decide_eq_true c8; clear c8
      by_cases c9 : (rd l0_2 a1) ≤ (rd l0_2 (ji5))
      ·rw [if_pos c9] at H; have c9b0 := eq_true c9; have c9b1 : decide ((rd l0_2 a1) ≤ (rd l0_2 (ji5))) = true := decide_eq_true c9; clear c9
       by_cases c10 : (rd l0_2 (ji5)) ≤ (l0_3.length : Int)
       ·rw [if_pos c10] at H; have c10b0 := eq_true c10; have c10b1 : decide ((rd l0_2 (ji5)) ≤ (l0_3.length : Int)) = true := decide_eq_true c10; clear c10; obtain ⟨y145, hy145⟩ : ∃ y_ : List (S58), y_ = ((l0_3.take ((rd l0_2 (ji5)) : Int).toNat).drop ((rd l0_2 a1) : Int).toNat) := ⟨_, rfl⟩
        replace H : (some y145) = some r := by first | (rw [hy145]; with_reducible exact H) | (have H2_ := (Option.bind_some _ _).symm.trans H; rw [hy145]; with_reducible exact H2_) | (have H2_ := (Option.bind_some _ _).symm.trans H; with_reducible exact H2_) | with_reducible exact H | (rw [hy145]; exact H) | exact H
        have Ny145 := Aside0.mk hy145; clear hy145; obtain rfl := Option.some.inj H
        go_enter Try.func48, Try.ntmps48
        go_wp2_with (first | ((with_reducible refine gate_dst (N := 2) rfl ?_); refine be_ (cs := #[.slice A0_0 l0_0.length c0_0, .slice A0_1 l0_1.length c0_1, .slice A0_2 l0_2.length c0_2, .slice A0_3 l0_3.length c0_3]) (t := 32) ?_; intro gb142 hg w11 hbox hb; replace HO0_3 := Aside0.mk (Kd.V_below (Kd.V_elderB (vO HO0_3.out) gb142 (Nat.le_of_eq hg.symm)) hb); have BK142 := Aside0.mk (hbox); have GW142 := gE hg (bO HB.out); have GE142 := gE hg (bO HB.out); replace HB := hS0 HB hb; clear hb hbox hg; obtain ⟨hcz12_0, hcz12_1, hcz12_2, hcz12_3, hfz12_0, hfz12_1, hfz12_2, hfz12_3⟩ := bF4 BK142.out; have p143 : 0 ≤ (a1 : Int) := of_decide_eq_true aO; have q143 : a1 < (l0_2.length : Int) := of_decide_eq_true aO; obtain ⟨ad143, e143, hx143_0⟩ := Kd.at_int HR0_2.out a1 p143 q143; cases e143; replace hx143_0 := (HB.out.cell (World.block_lt_of_cell? w _ hx143_0)).trans hx143_0; replace p143 := eq_true p143; replace q143 := eq_true q143; have p144 : 0 ≤ ((ji5) : Int) := of_decide_eq_true aO; have q144 : (ji5) < (l0_2.length : Int) := of_decide_eq_true aO; obtain ⟨ad144, e144, hx144_0⟩ := Kd.at_int HR0_2.out (ji5) p144 q144; have he_ : ad143 = ad144 := (by injection e144); subst he_; replace hx144_0 := (HB.out.cell (World.block_lt_of_cell? w _ hx144_0)).trans hx144_0; replace p144 := eq_true p144; replace q144 := eq_true q144; have q13 : ((rd l0_2 (ji5)) : Int) ≤ ((l0_3.length : Int) : Int) := of_decide_eq_true aO; obtain ⟨i013, hi013, _, hsz13, _⟩ := info_parts info58; have hroom13 : l0_3.length ≤ c0_3 := (Kd.V_reads' HO0_3.out).2.1; have hC13 : Kd.F k58 _ _ A0_3 l0_3.length l0_3 := (Kd.V_at (base := w.heap.size) HO0_3.out).2.2; have ql13 : ((rd l0_2 a1) : Int) ≤ ((rd l0_2 (ji5)) : Int) := of_decide_eq_true aO; have q013 : (0 : Int) ≤ ((rd l0_2 a1) : Int) := of_decide_eq_true aO; have hcut13 := cut_mid (P := Try.prog) 30 58 .i64 .i64 Try.underlying30 hi013 3 hsz13 A0_3 l0_3.length c0_3 (rd l0_2 a1) (rd l0_2 (ji5)) q013 ql13 q13 hroom13; have hr13 := Kd.F_mid (lo := ((rd l0_2 a1) : Int).toNat) (hi := ((rd l0_2 (ji5)) : Int).toNat) (c := c0_3) hC13 (by omega) (by omega) hroom13; obtain ⟨A13, hA13⟩ : ∃ A1, A1 = (if c0_3 = ((rd l0_2 a1) : Int).toNat then A0_3 else (A0_3 : Option Addr).map (·.add (((rd l0_2 a1) : Int).toNat * 3))) := ⟨_, rfl⟩; obtain ⟨c13, hc13⟩ : ∃ c1, c1 = c0_3 - ((rd l0_2 a1) : Int).toNat := ⟨_, rfl⟩; have hy13 : y145.length = ((rd l0_2 (ji5)) : Int).toNat - ((rd l0_2 a1) : Int).toNat := (by rw [Ny145.out, List.length_drop, List.length_take] <;> omega); rw [show ((l0_3).take ((rd l0_2 (ji5)) : Int).toNat).drop ((rd l0_2 a1) : Int).toNat = y145 from Ny145.out.symm] at hr13; replace hr13 : Kd.F k58 _ _ A13 y145.length y145 := (by rw [hA13]; exact hr13); rw [← hy13, ← hA13, ← hc13] at hcut13; have HO149 := Aside0.mk (show Kd.V k58 58 _ w.heap.size _ (.slice A13 y145.length c13) y145 from Kd.V_mk (by rw [hy13, hc13]; exact Nat.sub_le_sub_right (Nat.le_trans (by omega) hroom13) _) hr13); have HC149 := Aside0.mk (show y145.length ≤ c13 from by rw [hy13, hc13]; exact Nat.sub_le_sub_right (Nat.le_trans (by omega) hroom13) _); clear hr13 hC13 hroom13 hi013 hsz13 hc13; have KY13 := Aside0.mk hy13; have KA13 := Aside0.mk hA13; clear hy13 hA13; replace q13 := eq_true q13))
        repeat (go_quiet (first | ((with_reducible refine gate_dst (N := 2) rfl ?_); refine be_ (cs := #[.slice A0_0 l0_0.length c0_0, .slice A0_1 l0_1.length c0_1, .slice A0_2 l0_2.length c0_2, .slice A0_3 l0_3.length c0_3]) (t := 32) ?_; intro gb142 hg w11 hbox hb; replace HO0_3 := Aside0.mk (Kd.V_below (Kd.V_elderB (vO HO0_3.out) gb142 (Nat.le_of_eq hg.symm)) hb); have BK142 := Aside0.mk (hbox); have GW142 := gE hg (bO HB.out); have GE142 := gE hg (bO HB.out); replace HB := hS0 HB hb; clear hb hbox hg; obtain ⟨hcz12_0, hcz12_1, hcz12_2, hcz12_3, hfz12_0, hfz12_1, hfz12_2, hfz12_3⟩ := bF4 BK142.out; have p143 : 0 ≤ (a1 : Int) := of_decide_eq_true aO; have q143 : a1 < (l0_2.length : Int) := of_decide_eq_true aO; obtain ⟨ad143, e143, hx143_0⟩ := Kd.at_int HR0_2.out a1 p143 q143; cases e143; replace hx143_0 := (HB.out.cell (World.block_lt_of_cell? w _ hx143_0)).trans hx143_0; replace p143 := eq_true p143; replace q143 := eq_true q143; have p144 : 0 ≤ ((ji5) : Int) := of_decide_eq_true aO; have q144 : (ji5) < (l0_2.length : Int) := of_decide_eq_true aO; obtain ⟨ad144, e144, hx144_0⟩ := Kd.at_int HR0_2.out (ji5) p144 q144; have he_ : ad143 = ad144 := (by injection e144); subst he_; replace hx144_0 := (HB.out.cell (World.block_lt_of_cell? w _ hx144_0)).trans hx144_0; replace p144 := eq_true p144; replace q144 := eq_true q144; have q13 : ((rd l0_2 (ji5)) : Int) ≤ ((l0_3.length : Int) : Int) := of_decide_eq_true aO; obtain ⟨i013, hi013, _, hsz13, _⟩ := info_parts info58; have hroom13 : l0_3.length ≤ c0_3 := (Kd.V_reads' HO0_3.out).2.1; have hC13 : Kd.F k58 _ _ A0_3 l0_3.length l0_3 := (Kd.V_at (base := w.heap.size) HO0_3.out).2.2; have ql13 : ((rd l0_2 a1) : Int) ≤ ((rd l0_2 (ji5)) : Int) := of_decide_eq_true aO; have q013 : (0 : Int) ≤ ((rd l0_2 a1) : Int) := of_decide_eq_true aO; have hcut13 := cut_mid (P := Try.prog) 30 58 .i64 .i64 Try.underlying30 hi013 3 hsz13 A0_3 l0_3.length c0_3 (rd l0_2 a1) (rd l0_2 (ji5)) q013 ql13 q13 hroom13; have hr13 := Kd.F_mid (lo := ((rd l0_2 a1) : Int).toNat) (hi := ((rd l0_2 (ji5)) : Int).toNat) (c := c0_3) hC13 (by omega) (by omega) hroom13; obtain ⟨A13, hA13⟩ : ∃ A1, A1 = (if c0_3 = ((rd l0_2 a1) : Int).toNat then A0_3 else (A0_3 : Option Addr).map (·.add (((rd l0_2 a1) : Int).toNat * 3))) := ⟨_, rfl⟩; obtain ⟨c13, hc13⟩ : ∃ c1, c1 = c0_3 - ((rd l0_2 a1) : Int).toNat := ⟨_, rfl⟩; have hy13 : y145.length = ((rd l0_2 (ji5)) : Int).toNat - ((rd l0_2 a1) : Int).toNat := (by rw [Ny145.out, List.length_drop, List.length_take] <;> omega); rw [show ((l0_3).take ((rd l0_2 (ji5)) : Int).toNat).drop ((rd l0_2 a1) : Int).toNat = y145 from Ny145.out.symm] at hr13; replace hr13 : Kd.F k58 _ _ A13 y145.length y145 := (by rw [hA13]; exact hr13); rw [← hy13, ← hA13, ← hc13] at hcut13; have HO149 := Aside0.mk (show Kd.V k58 58 _ w.heap.size _ (.slice A13 y145.length c13) y145 from Kd.V_mk (by rw [hy13, hc13]; exact Nat.sub_le_sub_right (Nat.le_trans (by omega) hroom13) _) hr13); have HC149 := Aside0.mk (show y145.length ≤ c13 from by rw [hy13, hc13]; exact Nat.sub_le_sub_right (Nat.le_trans (by omega) hroom13) _); clear hr13 hC13 hroom13 hi013 hsz13 hc13; have KY13 := Aside0.mk hy13; have KA13 := Aside0.mk hA13; clear hy13 hA13; replace q13 := eq_true q13)); try go_wp2_with (first | ((with_reducible refine gate_dst (N := 2) rfl ?_); refine be_ (cs := #[.slice A0_0 l0_0.length c0_0, .slice A0_1 l0_1.length c0_1, .slice A0_2 l0_2.length c0_2, .slice A0_3 l0_3.length c0_3]) (t := 32) ?_; intro gb142 hg w11 hbox hb; replace HO0_3 := Aside0.mk (Kd.V_below (Kd.V_elderB (vO HO0_3.out) gb142 (Nat.le_of_eq hg.symm)) hb); have BK142 := Aside0.mk (hbox); have GW142 := gE hg (bO HB.out); have GE142 := gE hg (bO HB.out); replace HB := hS0 HB hb; clear hb hbox hg; obtain ⟨hcz12_0, hcz12_1, hcz12_2, hcz12_3, hfz12_0, hfz12_1, hfz12_2, hfz12_3⟩ := bF4 BK142.out; have p143 : 0 ≤ (a1 : Int) := of_decide_eq_true aO; have q143 : a1 < (l0_2.length : Int) := of_decide_eq_true aO; obtain ⟨ad143, e143, hx143_0⟩ := Kd.at_int HR0_2.out a1 p143 q143; cases e143; replace hx143_0 := (HB.out.cell (World.block_lt_of_cell? w _ hx143_0)).trans hx143_0; replace p143 := eq_true p143; replace q143 := eq_true q143; have p144 : 0 ≤ ((ji5) : Int) := of_decide_eq_true aO; have q144 : (ji5) < (l0_2.length : Int) := of_decide_eq_true aO; obtain ⟨ad144, e144, hx144_0⟩ := Kd.at_int HR0_2.out (ji5) p144 q144; have he_ : ad143 = ad144 := (by injection e144); subst he_; replace hx144_0 := (HB.out.cell (World.block_lt_of_cell? w _ hx144_0)).trans hx144_0; replace p144 := eq_true p144; replace q144 := eq_true q144; have q13 : ((rd l0_2 (ji5)) : Int) ≤ ((l0_3.length : Int) : Int) := of_decide_eq_true aO; obtain ⟨i013, hi013, _, hsz13, _⟩ := info_parts info58; have hroom13 : l0_3.length ≤ c0_3 := (Kd.V_reads' HO0_3.out).2.1; have hC13 : Kd.F k58 _ _ A0_3 l0_3.length l0_3 := (Kd.V_at (base := w.heap.size) HO0_3.out).2.2; have ql13 : ((rd l0_2 a1) : Int) ≤ ((rd l0_2 (ji5)) : Int) := of_decide_eq_true aO; have q013 : (0 : Int) ≤ ((rd l0_2 a1) : Int) := of_decide_eq_true aO; have hcut13 := cut_mid (P := Try.prog) 30 58 .i64 .i64 Try.underlying30 hi013 3 hsz13 A0_3 l0_3.length c0_3 (rd l0_2 a1) (rd l0_2 (ji5)) q013 ql13 q13 hroom13; have hr13 := Kd.F_mid (lo := ((rd l0_2 a1) : Int).toNat) (hi := ((rd l0_2 (ji5)) : Int).toNat) (c := c0_3) hC13 (by omega) (by omega) hroom13; obtain ⟨A13, hA13⟩ : ∃ A1, A1 = (if c0_3 = ((rd l0_2 a1) : Int).toNat then A0_3 else (A0_3 : Option Addr).map (·.add (((rd l0_2 a1) : Int).toNat * 3))) := ⟨_, rfl⟩; obtain ⟨c13, hc13⟩ : ∃ c1, c1 = c0_3 - ((rd l0_2 a1) : Int).toNat := ⟨_, rfl⟩; have hy13 : y145.length = ((rd l0_2 (ji5)) : Int).toNat - ((rd l0_2 a1) : Int).toNat := (by rw [Ny145.out, List.length_drop, List.length_take] <;> omega); rw [show ((l0_3).take ((rd l0_2 (ji5)) : Int).toNat).drop ((rd l0_2 a1) : Int).toNat = y145 from Ny145.out.symm] at hr13; replace hr13 : Kd.F k58 _ _ A13 y145.length y145 := (by rw [hA13]; exact hr13); rw [← hy13, ← hA13, ← hc13] at hcut13; have HO149 := Aside0.mk (show Kd.V k58 58 _ w.heap.size _ (.slice A13 y145.length c13) y145 from Kd.V_mk (by rw [hy13, hc13]; exact Nat.sub_le_sub_right (Nat.le_trans (by omega) hroom13) _) hr13); have HC149 := Aside0.mk (show y145.length ≤ c13 from by rw [hy13, hc13]; exact Nat.sub_le_sub_right (Nat.le_trans (by omega) hroom13) _); clear hr13 hC13 hroom13 hi013 hsz13 hc13; have KY13 := Aside0.mk hy13; have KA13 := Aside0.mk hA13; clear hy13 hA13; replace q13 := eq_true q13)))
        go_ret
        exact ⟨_, by first | rfl | (simp [errW_none, errW_some] <;> rfl) | (simp only [← hji5]; first | rfl | (simp [errW_none, errW_some] <;> rfl)) | (simp [*, errW_none, errW_some] <;> rfl), by (with_reducible repeat (first | apply Kd.V_alloc | apply Kd.V_drewN | apply Kd.V_drew)); exact Kd.V_mono HO149.out (fun _ hk => hk.1), bS1 HB.out GE142.out⟩
       ·rw [if_neg c10] at H; exact absurd H (by simp)
      ·rw [if_neg c9] at H; exact absurd H (by simp)
     ·rw [if_neg c8] at H; exact absurd H (by simp)
    ·rw [if_neg c7] at H; exact absurd H (by simp)
   ·rw [if_neg c6] at H; exact absurd H (by simp)
  ·rw [if_neg c4] at H; exact absurd H (by simp)
 ·rw [if_neg c3] at H; exact absurd H (by simp)

/-! ### cmp_isNaN_int: function 71 -/
def cmp_isNaN_int.f (a0 : Int) : Option (Bool) := some (a0 != a0)
set_option maxHeartbeats 8000000 in
set_option maxRecDepth 100000 in
theorem cmp_isNaN_int.calls (a0 : Int) (r : Bool) (w : World) (h : cmp_isNaN_int.f a0 = some r) :
  Calls Try.prog 71 #[.int .i64 a0] w fun e w' => e = .returned (.bool r) ∧ Drawn0 w w' := by
 have H : (some (a0 != a0)) = some r := h; clear h; obtain rfl := Option.some.inj H
 go_enter Try.func71, Try.ntmps71
 go_wp2
 go_ret
 exact ⟨by first | rfl | (simp; done) | (simp [*]; done), by repeat (first | exact Drawn0.refl _ | apply Drawn0.step)⟩

/-! ### cmp_Less_int: function 65 -/
def cmp_Less_int.f (a0 : Int) (a1 : Int) : Option (Bool) := (cmp_isNaN_int.f a0).bind fun t150 => (if t150 = true then ((cmp_isNaN_int.f a1).bind fun t151 => (if t151 = true then (some (decide (a0 < a1))) else (some true))) else (some (decide (a0 < a1))))
set_option maxHeartbeats 8000000 in
set_option maxRecDepth 100000 in
theorem cmp_Less_int.calls (a0 : Int) (a1 : Int) (r : Bool) (w : World) (h : cmp_Less_int.f a0 a1 = some r) :
  Calls Try.prog 65 #[.int .i64 a0, .int .i64 a1] w fun e w' => e = .returned (.bool r) ∧ Drawn0 w w' := by
 have H : ((cmp_isNaN_int.f a0).bind fun t150 => (if t150 = true then ((cmp_isNaN_int.f a1).bind fun t151 => (if t151 = true then (some (decide (a0 < a1))) else (some true))) else (some (decide (a0 < a1))))) = some r := h; clear h; replace H := Option.bind_eq_some_iff.mp H; obtain ⟨t150, A30, H⟩ := H; replace H : (if t150 = true then ((cmp_isNaN_int.f a1).bind fun t151 => (if t151 = true then (some (decide (a0 < a1))) else (some true))) else (some (decide (a0 < a1)))) = some r := H; have A3 := Aside0.mk A30; clear A30
 by_cases c4 : t150 = true
 ·subst c4
  have H1 : ((cmp_isNaN_int.f a1).bind fun t151 => (if t151 = true then (some (decide (a0 < a1))) else (some true))) = some r := by rw [if_pos rfl] at H; exact H
  clear H; have H := H1; clear H1; replace H := Option.bind_eq_some_iff.mp H; obtain ⟨t151, A50, H⟩ := H; replace H : (if t151 = true then (some (decide (a0 < a1))) else (some true)) = some r := H; have A5 := Aside0.mk A50; clear A50
  by_cases c6 : t151 = true
  ·subst c6
   have H1 : (some (decide (a0 < a1))) = some r := by rw [if_pos rfl] at H; exact H
   clear H; have H := H1; clear H1; obtain rfl := Option.some.inj H
   go_enter Try.func65, Try.ntmps65
   go_wp2_with (first | ((with_reducible refine gate_callee (f := 71) rfl ?_); refine goesL_ (some 6) rfl rfl Try.func71 (by kernel_rfl) rfl #[.int .i64 a0] rfl mO ?_; (with_reducible refine (cmp_isNaN_int.calls a0 true _ A3.out).mono ?_); rintro e w' ⟨rfl, ⟨nd, rfl⟩⟩; refine ⟨_, rfl, ?_⟩) | (go_at_call 71; (with_reducible refine (cmp_isNaN_int.calls a1 true _ A5.out).mono ?_); rintro e w' ⟨rfl, ⟨nd, rfl⟩⟩))
   go_ret
   exact ⟨by first | rfl | (simp; done) | (simp [*]; done), by repeat (first | exact Drawn0.refl _ | apply Drawn0.step)⟩
  ·replace c6 := Bool.eq_false_iff.mpr c6; subst c6
   have H1 : (some true) = some r := by rw [if_neg (show ¬ (false = true) by decide)] at H; exact H
   clear H; have H := H1; clear H1; obtain rfl := Option.some.inj H
   go_enter Try.func65, Try.ntmps65
   go_wp2_with (first | ((with_reducible refine gate_callee (f := 71) rfl ?_); refine goesL_ (some 6) rfl rfl Try.func71 (by kernel_rfl) rfl #[.int .i64 a0] rfl mO ?_; (with_reducible refine (cmp_isNaN_int.calls a0 true _ A3.out).mono ?_); rintro e w' ⟨rfl, ⟨nd, rfl⟩⟩; refine ⟨_, rfl, ?_⟩) | (go_at_call 71; (with_reducible refine (cmp_isNaN_int.calls a1 false _ A5.out).mono ?_); rintro e w' ⟨rfl, ⟨nd, rfl⟩⟩))
   go_ret
   exact ⟨by first | rfl | (simp; done) | (simp [*]; done), by repeat (first | exact Drawn0.refl _ | apply Drawn0.step)⟩
 ·replace c4 := Bool.eq_false_iff.mpr c4; subst c4
  have H1 : (some (decide (a0 < a1))) = some r := by rw [if_neg (show ¬ (false = true) by decide)] at H; exact H
  clear H; have H := H1; clear H1; obtain rfl := Option.some.inj H
  go_enter Try.func65, Try.ntmps65
  go_wp2_with (first | ((with_reducible refine gate_callee (f := 71) rfl ?_); refine goesL_ (some 6) rfl rfl Try.func71 (by kernel_rfl) rfl #[.int .i64 a0] rfl mO ?_; (with_reducible refine (cmp_isNaN_int.calls a0 false _ A3.out).mono ?_); rintro e w' ⟨rfl, ⟨nd, rfl⟩⟩; refine ⟨_, rfl, ?_⟩))
  go_ret
  exact ⟨by first | rfl | (simp; done) | (simp [*]; done), by repeat (first | exact Drawn0.refl _ | apply Drawn0.step)⟩

/-! ### slices_IsSorted_int_int: function 54 -/
def slices_IsSorted_int_int.l0 : Nat → List Int → Int → Option (Bool)
 | 0, _, _ => none
 | k + 1, x0, x3 => if x3 > 0 then (if 0 ≤ x3 then (if x3 < (x0.length : Int) then (if 0 ≤ (wrap64 (x3 - 1)) then (if (wrap64 (x3 - 1)) < (x0.length : Int) then ((cmp_Less_int.f (rd x0 x3) (rd x0 (wrap64 (x3 - 1)))).bind fun t154 => (if t154 = true then (some false) else (slices_IsSorted_int_int.l0 k x0 (wrap64 (x3 - 1))))) else (none)) else (none)) else (none)) else (none)) else (some true)
def slices_IsSorted_int_int.f (k : Nat) (l0 : List Int) : Option (Bool) := slices_IsSorted_int_int.l0 k l0 (wrap64 ((l0.length : Int) - 1))
theorem slices_IsSorted_int_int.mono_l : ∀ k, (∀ y0 y1, LeO (slices_IsSorted_int_int.l0 k y0 y1) (slices_IsSorted_int_int.l0 (k + 1) y0 y1))
 | 0 => fun _ _ r h => by simp [slices_IsSorted_int_int.l0] at h
 | k + 1 => by
  have ih0 := slices_IsSorted_int_int.mono_l k
  ·intro y0 y1
   unfold slices_IsSorted_int_int.l0
   repeat' first
   | (with_reducible exact ih0 _ _)
   | (with_reducible exact LeO.refl _)
   | (with_reducible exact LeO.none _)
   | (with_reducible refine LeO.ite ?_ ?_)
   | (with_reducible refine LeO.bind ?_ (fun _ => ?_))
   | exact LeO.none _
   | refine LeO.ite ?_ ?_
   | refine LeO.bind ?_ (fun _ => ?_)
theorem slices_IsSorted_int_int.mono : ∀ a0 k, LeO (slices_IsSorted_int_int.f k a0) (slices_IsSorted_int_int.f (k + 1) a0) := by
 intro a0 k; have ih0 := slices_IsSorted_int_int.mono_l k
 unfold slices_IsSorted_int_int.f
 repeat' first
   | (with_reducible exact ih0 _ _)
   | (with_reducible exact LeO.refl _)
   | (with_reducible exact LeO.none _)
   | (with_reducible refine LeO.ite ?_ ?_)
   | (with_reducible refine LeO.bind ?_ (fun _ => ?_))
   | exact LeO.none _
   | refine LeO.ite ?_ ?_
   | refine LeO.bind ?_ (fun _ => ?_)
set_option maxHeartbeats 8000000 in
set_option maxRecDepth 100000 in
theorem slices_IsSorted_int_int.calls (k : Nat) (A0 : Option Addr) (c0 : Nat) (l0 : List Int) (r : Bool) (w : World) (hr0 : Kd.C (Kd.int .i64) w A0 l0.length l0) (hc0 : l0.length ≤ c0) (h : slices_IsSorted_int_int.f k l0 = some r) :
  Calls Try.prog 54 #[.slice A0 l0.length c0] w fun e w' => e = .returned (.bool r) ∧ Drawn0 w w' := by
 have HR0 := Aside0.mk hr0; have HC0 := Aside0.mk hc0; clear hr0 hc0; have H : (slices_IsSorted_int_int.l0 k l0 (wrap64 ((l0.length : Int) - 1))) = some r := h; clear h; have H' := Aside0.mk H; clear H
 go_enter Try.func54, Try.ntmps54
 go_wp2
 repeat (go_quiet (fail); try go_wp2)
 go_loopg [3] k (fun kq v3 w' => ∃ (x3_1 : Int), v3 = .int .i64 x3_1 ∧ Aside0 (slices_IsSorted_int_int.l0 kq l0 x3_1 = some r) ∧ Aside0 (kq ≤ k) ∧ Drawn0 w w')
 case atStart => exact ⟨(wrap64 ((l0.length : Int) - 1)), (by first | rfl | (simp; done) | (simp [*]; done)), H', ⟨Nat.le_refl _⟩, by repeat (first | exact Drawn0.refl _ | apply Drawn0.step)⟩
 case round =>
  clear H'; obtain ⟨x3_1, rfl, HA, HK1, ⟨m1, rfl⟩⟩ := hrel; cases gk with
  | zero => exact absurd HA.out (by simp [slices_IsSorted_int_int.l0])
  | succ k1 =>
   have H := HA.out; clear HA; simp only [slices_IsSorted_int_int.l0] at H
   by_cases c2 : x3_1 > 0
   ·rw [if_pos c2] at H; have c2b0 : decide (0 < x3_1) = true := decide_eq_true c2; clear c2
    by_cases c3 : 0 ≤ x3_1
    ·rw [if_pos c3] at H; have c3b0 : decide (0 ≤ x3_1) = true := decide_eq_true c3; clear c3
     by_cases c4 : x3_1 < (l0.length : Int)
     ·rw [if_pos c4] at H; have c4b0 : decide (x3_1 < (l0.length : Int)) = true := decide_eq_true c4; clear c4; obtain ⟨ji5, hji5⟩ : ∃ j_ : Int, (wrap64 (x3_1 - 1)) = j_ := ⟨_, rfl⟩
      replace H : (if 0 ≤ (ji5) then (if (ji5) < (l0.length : Int) then ((cmp_Less_int.f (rd l0 x3_1) (rd l0 (ji5))).bind fun t154 => (if t154 = true then (some false) else (slices_IsSorted_int_int.l0 k1 l0 ji5))) else (none)) else (none)) = some r := by first | (rw [hji5] at H; exact H) | (simp only [hji5] at H ⊢; exact H)
      have hji5w : (IntKind.i64.wrap (x3_1 - 1)) = ji5 := (i64_w _).trans hji5
      by_cases c6 : 0 ≤ (ji5)
      ·rw [if_pos c6] at H; have c6b0 : decide (0 ≤ (ji5)) = true := decide_eq_true c6; clear c6
       by_cases c7 : (ji5) < (l0.length : Int)
       ·rw [if_pos c7] at H; have c7b0 : decide ((ji5) < (l0.length : Int)) = true := decide_eq_true c7; clear c7; replace H := Option.bind_eq_some_iff.mp H; obtain ⟨t154, A80, H⟩ := H; replace H : (if t154 = true then (some false) else (slices_IsSorted_int_int.l0 k1 l0 ji5)) = some r := H; have A8 := Aside0.mk A80; clear A80
        by_cases c9 : t154 = true
        ·subst c9
         have H1 : (some false) = some r := by rw [if_pos rfl] at H; exact H
         clear H; have H := H1; clear H1; obtain rfl := Option.some.inj H; have p152 : 0 ≤ (x3_1 : Int) := of_decide_eq_true aO; have q152 : x3_1 < (l0.length : Int) := of_decide_eq_true aO; obtain ⟨ad152, e152, hx152_0⟩ := Kd.at_int HR0.out x3_1 p152 q152; cases e152; replace p152 := eq_true p152; replace q152 := eq_true q152; have p153 : 0 ≤ ((ji5) : Int) := of_decide_eq_true aO; have q153 : (ji5) < (l0.length : Int) := of_decide_eq_true aO; obtain ⟨ad153, e153, hx153_0⟩ := Kd.at_int HR0.out (ji5) p153 q153; have he_ : ad152 = ad153 := (by injection e153); subst he_; replace p153 := eq_true p153; replace q153 := eq_true q153
         go_wp2_with (first | (go_at_call 65; (with_reducible refine (cmp_Less_int.calls (rd l0 x3_1) (rd l0 (ji5)) true _ A8.out).mono ?_); rintro e w' ⟨rfl, ⟨nd, rfl⟩⟩; (try first | exact ⟨rfl, _, World.drewN_drewN _ _ _⟩ | exact ⟨rfl, _, Eq.trans (World.drewN_drewN _ _ _) (congrArg (World.drewN _) (Nat.add_assoc _ _ _))⟩)))
         repeat (go_quiet (first | (go_at_call 65; (with_reducible refine (cmp_Less_int.calls (rd l0 x3_1) (rd l0 (ji5)) true _ A8.out).mono ?_); rintro e w' ⟨rfl, ⟨nd, rfl⟩⟩; (try first | exact ⟨rfl, _, World.drewN_drewN _ _ _⟩ | exact ⟨rfl, _, Eq.trans (World.drewN_drewN _ _ _) (congrArg (World.drewN _) (Nat.add_assoc _ _ _))⟩))); try go_wp2_with (first | (go_at_call 65; (with_reducible refine (cmp_Less_int.calls (rd l0 x3_1) (rd l0 (ji5)) true _ A8.out).mono ?_); rintro e w' ⟨rfl, ⟨nd, rfl⟩⟩; (try first | exact ⟨rfl, _, World.drewN_drewN _ _ _⟩ | exact ⟨rfl, _, Eq.trans (World.drewN_drewN _ _ _) (congrArg (World.drewN _) (Nat.add_assoc _ _ _))⟩))))
         go_ret
         exact ⟨by first | rfl | (simp; done) | (simp only [← hji5] <;> (first | rfl | simp)) | (simp [*]; done), by repeat (first | exact Drawn0.refl _ | apply Drawn0.step)⟩
        ·replace c9 := Bool.eq_false_iff.mpr c9; subst c9
         have H1 : (slices_IsSorted_int_int.l0 k1 l0 ji5) = some r := by rw [if_neg (show ¬ (false = true) by decide)] at H; exact H
         clear H; have H := H1; clear H1; have H' := Aside0.mk H; clear H; have p152 : 0 ≤ (x3_1 : Int) := of_decide_eq_true aO; have q152 : x3_1 < (l0.length : Int) := of_decide_eq_true aO; obtain ⟨ad152, e152, hx152_0⟩ := Kd.at_int HR0.out x3_1 p152 q152; cases e152; replace p152 := eq_true p152; replace q152 := eq_true q152; have p153 : 0 ≤ ((ji5) : Int) := of_decide_eq_true aO; have q153 : (ji5) < (l0.length : Int) := of_decide_eq_true aO; obtain ⟨ad153, e153, hx153_0⟩ := Kd.at_int HR0.out (ji5) p153 q153; have he_ : ad152 = ad153 := (by injection e153); subst he_; replace p153 := eq_true p153; replace q153 := eq_true q153
         go_wp2_with (first | (go_at_call 65; (with_reducible refine (cmp_Less_int.calls (rd l0 x3_1) (rd l0 (ji5)) false _ A8.out).mono ?_); rintro e w' ⟨rfl, ⟨nd, rfl⟩⟩; (try first | exact ⟨rfl, _, World.drewN_drewN _ _ _⟩ | exact ⟨rfl, _, Eq.trans (World.drewN_drewN _ _ _) (congrArg (World.drewN _) (Nat.add_assoc _ _ _))⟩)))
         repeat (go_quiet (first | (go_at_call 65; (with_reducible refine (cmp_Less_int.calls (rd l0 x3_1) (rd l0 (ji5)) false _ A8.out).mono ?_); rintro e w' ⟨rfl, ⟨nd, rfl⟩⟩; (try first | exact ⟨rfl, _, World.drewN_drewN _ _ _⟩ | exact ⟨rfl, _, Eq.trans (World.drewN_drewN _ _ _) (congrArg (World.drewN _) (Nat.add_assoc _ _ _))⟩))); try go_wp2_with (first | (go_at_call 65; (with_reducible refine (cmp_Less_int.calls (rd l0 x3_1) (rd l0 (ji5)) false _ A8.out).mono ?_); rintro e w' ⟨rfl, ⟨nd, rfl⟩⟩; (try first | exact ⟨rfl, _, World.drewN_drewN _ _ _⟩ | exact ⟨rfl, _, Eq.trans (World.drewN_drewN _ _ _) (congrArg (World.drewN _) (Nat.add_assoc _ _ _))⟩))))
         go_roundg k1
         case measure => have := HK1.out; omega
         case rel => exact ⟨(ji5), (by first | rfl | (simp; done) | (simp only [← hji5] <;> (first | rfl | simp)) | (simp [*]; done)), H', ⟨by have := HK1.out; omega⟩, by repeat (first | exact Drawn0.refl _ | apply Drawn0.step)⟩
       ·rw [if_neg c7] at H; exact absurd H (by simp)
      ·rw [if_neg c6] at H; exact absurd H (by simp)
     ·rw [if_neg c4] at H; exact absurd H (by simp)
    ·rw [if_neg c3] at H; exact absurd H (by simp)
   ·rw [if_neg c2] at H; have c2b0 : decide (0 < x3_1) = false := decide_eq_false c2; clear c2; obtain rfl := Option.some.inj H
    go_wp2
    repeat (go_quiet (fail); try go_wp2)
    go_ret
    exact ⟨by first | rfl | (simp; done) | (simp [*]; done), by repeat (first | exact Drawn0.refl _ | apply Drawn0.step)⟩

end Go.Proofs.Ytghfclgcgecgdaa.X
