/- What the functions of this seat compute, and that the program's calls come to just that: written by this session's own program out of the translation; no condition. -/
import Derived.Test.YtghfclgcgecgdaaX0
import Derived.Test.YtghfclgcgecgdaaX8
import Derived.Test.YtghfclgcgecgdaaX11
import Derived.Test.YtghfclgcgecgdaaX15
namespace Go.Proofs.Ytghfclgcgecgdaa.X
open Go.RowKit Go.Proofs.YtghfclgcgecgdaaW.PrintWords Go.Proofs.YtghfclgcgecgdaaW.PrintLast Go.Proofs.YtghfclgcgecgdaaW.PrintMore
attribute [local go_sem] max2_int min2_int max_two min_two max_three min_three max_four min_four
set_option linter.unusedVariables false
set_option linter.unusedSimpArgs false

/-! ### table_Unpack: function 27 -/
def table_Unpack.l0 : Nat → Int → Int → List ByteArray → List Bool → List Int → List (S58) → List ByteArray → List Bool → List (List Int) → Option (List ByteArray × List Bool × (List (List Int)) × Int)
 | 0, _, _, _, _, _, _, _, _, _ => none
 | k + 1, x24, x25, x637000, x637001, x637002, x637003, x646000, x646001, x646002 => if x25 < x24 then ((table_rowOf.f x637000 x637001 x637002 x637003 x25).bind fun t646 => ((row_Unpack.f k t646 (x637000.length : Int)).bind fun bt649 => (if bt649.2 = 0 then (if x646002.length < 5864062014805 then (table_Unpack.l0 k x24 (wrap64 (x25 + 1)) x637000 x637001 x637002 x637003 x646000 x646001 (x646002 ++ [bt649.1])) else (none)) else (some (([] : List ByteArray), ([] : List Bool), ([] : List (List Int)), bt649.2))))) else (some (x646000, x646001, x646002, 0))
def table_Unpack.f (k : Nat) (l0_0 : List ByteArray) (l0_1 : List Bool) (l0_2 : List Int) (l0_3 : List (S58)) : Option (List ByteArray × List Bool × (List (List Int)) × Int) := (table_Check.f k l0_0 l0_1 l0_2 l0_3).bind fun t638 => (if t638 = 0 then ((slices_Clone_string_string.f l0_0).bind fun t639 => ((slices_Clone_bool_bool.f l0_1).bind fun t642 => (table_Unpack.l0 k (l0_1.length : Int) 0 l0_0 l0_1 l0_2 l0_3 t639 t642 ([] : List (List Int))))) else (some (([] : List ByteArray), ([] : List Bool), ([] : List (List Int)), t638)))
theorem table_Unpack.mono_l : ∀ k, (∀ y0 y1 y2 y3 y4 y5 y6 y7 y8, LeO (table_Unpack.l0 k y0 y1 y2 y3 y4 y5 y6 y7 y8) (table_Unpack.l0 (k + 1) y0 y1 y2 y3 y4 y5 y6 y7 y8))
 | 0 => fun _ _ _ _ _ _ _ _ _ r h => by simp [table_Unpack.l0] at h
 | k + 1 => by
  have ih0 := table_Unpack.mono_l k
  ·intro y0 y1 y2 y3 y4 y5 y6 y7 y8
   unfold table_Unpack.l0
   repeat' first | (with_reducible first | exact ih0 _ _ _ _ _ _ _ _ _ | exact row_Unpack.mono _ _ _ | exact table_Check.mono _ _ _ _ _ | exact lA | apply lI | refine lB ?_ fun _ => ?_) | exact lN _ | apply lI | refine lB ?_ fun _ => ?_
theorem table_Unpack.mono : ∀ a0 a1 a2 a3 k, LeO (table_Unpack.f k a0 a1 a2 a3) (table_Unpack.f (k + 1) a0 a1 a2 a3) := by
 intro a0 a1 a2 a3 k; have ih0 := table_Unpack.mono_l k
 unfold table_Unpack.f
 repeat' first | (with_reducible first | exact ih0 _ _ _ _ _ _ _ _ _ | exact row_Unpack.mono _ _ _ | exact table_Check.mono _ _ _ _ _ | exact lA | apply lI | refine lB ?_ fun _ => ?_) | exact lN _ | apply lI | refine lB ?_ fun _ => ?_
def table_Unpack.T4 : Bool × List (List Nat × List Nat) := (true, [([], []), ([0], [0]), ([1], [1]), ([], []), ([3], [3]), ([4, 2], [4]), ([2, 5], [2, 5]), ([], []), ([7, 6, 5, 0, 1, 2, 3, 4, 5, 6, 7], [6, 7])])
def table_Unpack.B4 : List Nat := [0, 1, 3, 0, 8, 31, 63, 0, 255]
theorem table_Unpack.tab4 : rtab .any (opsOf Try.f27 4) = table_Unpack.T4 := by kernel_rfl
theorem table_Unpack.bits4 : waitsOk table_Unpack.T4.2 table_Unpack.B4 = true := by kernel_rfl
def table_Unpack.T8 : Bool × List (List Nat × List Nat) := (true, [([], []), ([], []), ([0, 1], [0, 1]), ([], []), ([3], [3]), ([4], [4]), ([2, 5, 2], [2, 5]), ([6], [6]), ([7], [7]), ([7], [7]), ([8, 6, 0, 1, 2, 3, 4, 5, 6, 7, 8], [8]), ([9, 10, 0, 1, 2, 3, 4, 5, 6, 7, 8, 9, 10], [9])])
def table_Unpack.B8 : List Nat := [0, 0, 3, 0, 8, 24, 63, 127, 255, 255, 511, 2047]
theorem table_Unpack.tab8 : rtab .any (opsOf Try.f27 8) = table_Unpack.T8 := by kernel_rfl
theorem table_Unpack.bits8 : waitsOk table_Unpack.T8.2 table_Unpack.B8 = true := by kernel_rfl
set_option maxHeartbeats 8000000 in
set_option maxRecDepth 100000 in
theorem table_Unpack.calls (k : Nat) (A0_0 : Option Addr) (c0_0 : Nat) (l0_0 : List ByteArray) (A0_1 : Option Addr) (c0_1 : Nat) (l0_1 : List Bool) (A0_2 : Option Addr) (c0_2 : Nat) (l0_2 : List Int) (A0_3 : Option Addr) (c0_3 : Nat) (l0_3 : List (S58)) (r1 : List ByteArray) (r2 : List Bool) (r3 : List (List Int)) (r4 : Int) (w : World) (hr0_0 : Kd.C Kd.string w A0_0 l0_0.length l0_0) (hc0_0 : l0_0.length ≤ c0_0) (hr0_1 : Kd.C Kd.bool w A0_1 l0_1.length l0_1) (hc0_1 : l0_1.length ≤ c0_1) (hr0_2 : Kd.C (Kd.int .i64) w A0_2 l0_2.length l0_2) (hc0_2 : l0_2.length ≤ c0_2) (hr0_3 : Kd.C k58 w A0_3 l0_3.length l0_3) (hc0_3 : l0_3.length ≤ c0_3) (h : table_Unpack.f k l0_0 l0_1 l0_2 l0_3 = some (r1, r2, r3, r4)) :
  Calls Try.prog 27 #[.agg #[.slice A0_0 l0_0.length c0_0, .slice A0_1 l0_1.length c0_1, .slice A0_2 l0_2.length c0_2, .slice A0_3 l0_3.length c0_3]] w fun e w' => ∃ v0_ v1_ v2_ : Value, e = .returned (.tuple #[.agg #[v0_, v1_, v2_], .int .i64 r4]) ∧ Kd.R Kd.string 9 w' w.heap.size (fun _ => True) v0_ r1 ∧ Kd.R Kd.bool 4 w' w.heap.size (fun _ => True) v1_ r2 ∧ Kd.S (Kd.slice 3 (Kd.int .i64)) 29 w' w.heap.size (fun _ => True) v2_ r3 ∧ Below w.heap.size w w' := by
 have hu32 := Try.underlying32; have hu26 := Try.underlying26; have HR0_0 := Aside0.mk hr0_0; have HC0_0 := Aside0.mk hc0_0; clear hr0_0 hc0_0; have HR0_1 := Aside0.mk hr0_1; have HC0_1 := Aside0.mk hc0_1; clear hr0_1 hc0_1; have HR0_2 := Aside0.mk hr0_2; have HC0_2 := Aside0.mk hc0_2; clear hr0_2 hc0_2; have HR0_3 := Aside0.mk hr0_3; have HC0_3 := Aside0.mk hc0_3; clear hr0_3 hc0_3; have HB := Aside0.mk (Below.refl w.heap.size w); have H : ((table_Check.f k l0_0 l0_1 l0_2 l0_3).bind fun t638 => (if t638 = 0 then ((slices_Clone_string_string.f l0_0).bind fun t639 => ((slices_Clone_bool_bool.f l0_1).bind fun t642 => (table_Unpack.l0 k (l0_1.length : Int) 0 l0_0 l0_1 l0_2 l0_3 t639 t642 ([] : List (List Int))))) else (some (([] : List ByteArray), ([] : List Bool), ([] : List (List Int)), t638)))) = some (r1, r2, r3, r4) := h; clear h; replace H := Option.bind_eq_some_iff.mp H; obtain ⟨t638, A20, H⟩ := H; replace H : (if t638 = 0 then ((slices_Clone_string_string.f l0_0).bind fun t639 => ((slices_Clone_bool_bool.f l0_1).bind fun t642 => (table_Unpack.l0 k (l0_1.length : Int) 0 l0_0 l0_1 l0_2 l0_3 t639 t642 ([] : List (List Int))))) else (some (([] : List ByteArray), ([] : List Bool), ([] : List (List Int)), t638))) = some (r1, r2, r3, r4) := H; have A2 := Aside0.mk A20; clear A20
 by_cases c3 : t638 = 0
 ·rw [if_pos c3] at H; obtain ⟨c3b0, c3b1⟩ := bq c3; clear c3; replace H := Option.bind_eq_some_iff.mp H; obtain ⟨t639, A40, H⟩ := H; replace H : ((slices_Clone_bool_bool.f l0_1).bind fun t642 => (table_Unpack.l0 k (l0_1.length : Int) 0 l0_0 l0_1 l0_2 l0_3 t639 t642 ([] : List (List Int)))) = some (r1, r2, r3, r4) := H; have A4 := Aside0.mk A40; clear A40; replace H := Option.bind_eq_some_iff.mp H; obtain ⟨t642, A50, H⟩ := H; replace H : (table_Unpack.l0 k (l0_1.length : Int) 0 l0_0 l0_1 l0_2 l0_3 t639 t642 ([] : List (List Int))) = some (r1, r2, r3, r4) := H; have A5 := Aside0.mk A50; clear A50; have H' := Aside0.mk H; clear H
  go_enter Try.func27, Try.ntmps27
  try go_wp2_with (first | ((with_reducible refine gate_dst (N := 1) rfl ?_); refine be_ (cs := #[.slice A0_0 l0_0.length c0_0, .slice A0_1 l0_1.length c0_1, .slice A0_2 l0_2.length c0_2, .slice A0_3 l0_3.length c0_3]) (t := 32) ?_; intro gb636 hg w6 hbox hb; have BK636 := Aside0.mk (hbox); have GW636 := gE hg (bO HB.out); have GE636 := gE hg (bO HB.out); replace HB := hS0 HB hb; clear hb hbox hg) | ((with_reducible refine gate_dst (N := 2) rfl ?_); refine be_ (cs := #[.slice none 0 0, .slice none 0 0, .slice none 0 0]) (t := 26) ?_; intro gb637 hg w7 hbox hb; have BK637 := Aside0.mk (hbox); have GW637 := gE hg (bS1 HB.out GE636.out); have GE637 := gE hg (bS1 HB.out GE636.out); replace HB := hS1 HB GE636 hb; have NB636_637 := nL hg BK636; have NB637_636 := nG hg BK636; replace BK636 := kB BK636 hb; clear hb hbox hg; have hnb8 := NB636_637.out; have hnc8 := NB637_636.out; obtain ⟨hcz9_0, hcz9_1, hcz9_2, hcz9_3, hfz9_0, hfz9_1, hfz9_2, hfz9_3⟩ := bF4 BK636.out) | ((with_reducible refine gate_callee (f := 29) rfl ?_); refine gL_ (some 10) Try.func29 #[.agg #[.slice A0_0 l0_0.length c0_0, .slice A0_1 l0_1.length c0_1, .slice A0_2 l0_2.length c0_2, .slice A0_3 l0_3.length c0_3]] ?_; (with_reducible refine (table_Check.calls k _ _ l0_0 _ _ l0_1 _ _ l0_2 _ _ l0_3 t638 _ ?s1 ?s2 ?s3 ?s4 ?s5 ?s6 ?s7 ?s8 A2.out).mono ?_); (case s1 => exact cB HR0_0 HB); (case s2 => exact HC0_0.out); (case s3 => exact cB HR0_1 HB); (case s4 => exact HC0_1.out); (case s5 => exact cB HR0_2 HB); (case s6 => exact HC0_2.out); (case s7 => exact cB HR0_3 HB); (case s8 => exact HC0_3.out); rintro e w10 ⟨rfl, hb⟩; refine ⟨_, rfl, ?_⟩; replace BK636 := kB BK636 hb; replace BK637 := kB BK637 hb; replace HB := hS2 HB GE636 GE637 hb; (try clear hb); (try clear hb2); (try clear hk); (try clear hi)))
  replace BK636 := kD BK636; replace BK637 := kD BK637; replace HB := Aside0.mk (below_drew1 HB.out); refine start_ (n := 9) (S := fun w' => w'.cell? ⟨gb636, 0, none⟩ = some (.slice A0_0 l0_0.length c0_0) ∧ w'.cell? ⟨gb636, 1, none⟩ = some (.slice A0_1 l0_1.length c0_1) ∧ w'.cell? ⟨gb636, 2, none⟩ = some (.slice A0_2 l0_2.length c0_2) ∧ w'.cell? ⟨gb636, 3, none⟩ = some (.slice A0_3 l0_3.length c0_3)) (ds := []) (bl 9 0) (by kernel_rfl) rfl rfl (bC4 BK636.out) (fun hHeld => ?_); refine with_tabW table_Unpack.tab4 table_Unpack.bits4 (fun HT_ HW_ => ?_); generalize w10.drew = w11 at BK636 BK637 HB hHeld ⊢; refine pu_ 0 15 (bl 9 1) HT_ ?_; refine pu_ 3 18 (bl 9 9) HT_ ?_; refine tk4_ 1 16 (bl 9 11) HT_ HW_ hHeld ?_; refine tk4_ 4 19 (bl 9 27) HT_ HW_ hHeld ?_; refine join_ (σ := Value × Value × Nat) 1 (bl 9 255) (fun s_ => [(17, s_.1), (20, s_.2.1), (5, .pointer (some ⟨s_.2.2, 0, none⟩)), (21, .agg #[s_.1, s_.2.1, .slice none 0 0])]) (fun s_ w' => (w'.cell? ⟨gb636, 0, none⟩ = some (.slice A0_0 l0_0.length c0_0) ∧ w'.cell? ⟨gb636, 1, none⟩ = some (.slice A0_1 l0_1.length c0_1) ∧ w'.cell? ⟨gb636, 2, none⟩ = some (.slice A0_2 l0_2.length c0_2) ∧ w'.cell? ⟨gb636, 3, none⟩ = some (.slice A0_3 l0_3.length c0_3)) ∧ (Kd.R Kd.string 9 w' w.heap.size (fun _ => True) s_.1 t639) ∧ (Kd.R Kd.bool 4 w' w.heap.size (fun _ => True) s_.2.1 t642) ∧ (w'.heap[gb636]? = some (.cells #[.slice A0_0 l0_0.length c0_0, .slice A0_1 l0_1.length c0_1, .slice A0_2 l0_2.length c0_2, .slice A0_3 l0_3.length c0_3] 32 (0, 0))) ∧ (w'.heap[gb637]? = some (.cells #[.slice none 0 0, .slice none 0 0, .slice none 0 0] 26 (0, 0))) ∧ (w'.heap[s_.2.2]? = some (.cells #[.slice none 0 0, .slice none 0 0, .slice none 0 0] 26 (0, 0))) ∧ (w.heap.size ≤ s_.2.2) ∧ (w.heap.size ≤ s_.2.2) ∧ (gb636 ≠ s_.2.2) ∧ (s_.2.2 ≠ gb636) ∧ (gb637 ≠ s_.2.2) ∧ (s_.2.2 ≠ gb637) ∧ (Below w.heap.size w w')) ?_ ?_; rotate_left
  ·intro hCont; refine two_ (i := 2) (j := 7) (Ni := some 17) (Nj := some 5) (bl 9 31) (bl 9 155) rfl rfl rfl rfl (two_of HT_.out (by kernel_rfl)) (by decide) (by decide) (fun K hK => ?_) (fun K hK => ?_)
   ·refine gS_ Try.func34 #[.slice A0_0 l0_0.length c0_0] ?_
    with_reducible refine (slices_Clone_string_string.calls _ _ l0_0 t639 _ ?s1 ?s2 A4.out).mono ?_
    (case s1 => exact cB HR0_0 HB)
    (case s2 => exact HC0_0.out)
    rintro e w12 ⟨v640, rfl, ho0, hb⟩; refine ⟨_, rfl, ?_⟩; have HO641 := rW ho0 (bS2 HB.out GE636.out GE637.out); replace BK636 := kB BK636 hb; replace BK637 := kB BK637 hb; replace HB := hS2 HB GE636 GE637 hb
    (try clear hb)
    (try clear hb2)
    (try clear hk)
    (try clear hi)
    (try clear ho0)
    refine hK.out _ _ (bC4 BK636.out) (fun hHeld => ?_); clear hK K; refine nm_ 17 ?_; refine two_ (i := 5) (j := 7) (Ni := some 20) (Nj := some 5) (bl 9 63) (bl 9 159) rfl rfl rfl rfl (two_of HT_.out (by kernel_rfl)) (by decide) (by decide) (fun K hK => ?_) (fun K hK => ?_)
    ·refine gS_ Try.func35 #[.slice A0_1 l0_1.length c0_1] ?_
     with_reducible refine (slices_Clone_bool_bool.calls _ _ l0_1 t642 _ ?s1 ?s2 A5.out).mono ?_
     (case s1 => exact cB HR0_1 HB)
     (case s2 => exact HC0_1.out)
     rintro e w13 ⟨v643, rfl, ho0, hb⟩; refine ⟨_, rfl, ?_⟩; replace HO641 := rB HO641 hb; have HO644 := rW ho0 (bS2 HB.out GE636.out GE637.out); replace BK636 := kB BK636 hb; replace BK637 := kB BK637 hb; replace HB := hS2 HB GE636 GE637 hb
     (try clear hb)
     (try clear hb2)
     (try clear hk)
     (try clear hi)
     (try clear ho0)
     obtain ⟨Ao14, co14, eo14⟩ := Kd.R_slice HO644.out
     (first | subst eo14 | (injection eo14 with f1_ f2_ f3_; have f4_ := f1_.symm; have f5_ := f3_.symm; clear f1_ f2_ f3_; subst f4_; subst f5_))
     obtain ⟨Ao15, co15, eo15⟩ := Kd.R_slice HO641.out
     (first | subst eo15 | (injection eo15 with f1_ f2_ f3_; have f4_ := f1_.symm; have f5_ := f3_.symm; clear f1_ f2_ f3_; subst f4_; subst f5_))
     refine hK.out _ _ (bC4 BK636.out) (fun hHeld => ?_); clear hK K; refine nm_ 20 ?_; refine pu_ 6 21 (bl 9 127) HT_ ?_; refine one_ (i := 7) (N := some 5) (bl 9 255) rfl rfl (one_of HT_.out (by kernel_rfl)) (by decide) (fun K hK => ?_); refine bs_ (cs := #[.slice none 0 0, .slice none 0 0, .slice none 0 0]) (t := 26) ?_; intro gb645 hg w16 hbox hb; replace HO641 := rB HO641 hb; replace HO644 := rB HO644 hb; have BK645 := Aside0.mk (hbox); have GW645 := gE hg (bS2 HB.out GE636.out GE637.out); have GE645 := gE hg (bS2 HB.out GE636.out GE637.out); replace HB := hS2 HB GE636 GE637 hb; have NB636_645 := nL hg BK636; have NB645_636 := nG hg BK636; replace BK636 := kB BK636 hb; have NB637_645 := nL hg BK637; have NB645_637 := nG hg BK637; replace BK637 := kB BK637 hb; clear hb hbox hg; refine hK.out _ _ (bC4 BK636.out) (fun hHeld => ?_); clear hK K; refine nm_ 5 ?_; exact norm_ (by simp only [putAll, Act.put, sA, sB, sC]) (hCont (.slice Ao15 t639.length co15, .slice Ao14 t642.length co14, gb645) _ ⟨hHeld, (rO HO641.out), (rO HO644.out), (kO BK636.out), (kO BK637.out), (kO BK645.out), GW645.out, GE645.out, NB636_645.out, NB645_636.out, NB637_645.out, NB645_637.out, (bS3 HB.out GE636.out GE637.out GE645.out)⟩)
    ·refine bs_ (cs := #[.slice none 0 0, .slice none 0 0, .slice none 0 0]) (t := 26) ?_; intro gb645 hg w13 hbox hb; replace HO641 := rB HO641 hb; have BK645 := Aside0.mk (hbox); have GW645 := gE hg (bS2 HB.out GE636.out GE637.out); have GE645 := gE hg (bS2 HB.out GE636.out GE637.out); replace HB := hS2 HB GE636 GE637 hb; have NB636_645 := nL hg BK636; have NB645_636 := nG hg BK636; replace BK636 := kB BK636 hb; have NB637_645 := nL hg BK637; have NB645_637 := nG hg BK637; replace BK637 := kB BK637 hb; clear hb hbox hg; refine hK.out _ _ (bC4 BK636.out) (fun hHeld => ?_); clear hK K; refine nm_ 5 ?_; refine one_ (i := 5) (N := some 20) (bl 9 191) rfl rfl (one_of HT_.out (by kernel_rfl)) (by decide) (fun K hK => ?_); refine gS_ Try.func35 #[.slice A0_1 l0_1.length c0_1] ?_
     with_reducible refine (slices_Clone_bool_bool.calls _ _ l0_1 t642 _ ?s1 ?s2 A5.out).mono ?_
     (case s1 => exact cB HR0_1 HB)
     (case s2 => exact HC0_1.out)
     rintro e w14 ⟨v643, rfl, ho0, hb⟩; refine ⟨_, rfl, ?_⟩; replace HO641 := rB HO641 hb; have HO644 := rW ho0 (bS3 HB.out GE636.out GE637.out GE645.out); replace BK636 := kB BK636 hb; replace BK637 := kB BK637 hb; replace BK645 := kB BK645 hb; replace HB := hS3 HB GE636 GE637 GE645 hb
     (try clear hb)
     (try clear hb2)
     (try clear hk)
     (try clear hi)
     (try clear ho0)
     obtain ⟨Ao15, co15, eo15⟩ := Kd.R_slice HO644.out
     (first | subst eo15 | (injection eo15 with f1_ f2_ f3_; have f4_ := f1_.symm; have f5_ := f3_.symm; clear f1_ f2_ f3_; subst f4_; subst f5_))
     obtain ⟨Ao16, co16, eo16⟩ := Kd.R_slice HO641.out
     (first | subst eo16 | (injection eo16 with f1_ f2_ f3_; have f4_ := f1_.symm; have f5_ := f3_.symm; clear f1_ f2_ f3_; subst f4_; subst f5_))
     refine hK.out _ _ (bC4 BK636.out) (fun hHeld => ?_); clear hK K; refine nm_ 20 ?_; refine pu_ 6 21 (bl 9 255) HT_ ?_; exact norm_ (by simp only [putAll, Act.put, sA, sB, sC]) (hCont (.slice Ao16 t639.length co16, .slice Ao15 t642.length co15, gb645) _ ⟨hHeld, (rO HO641.out), (rO HO644.out), (kO BK636.out), (kO BK637.out), (kO BK645.out), GW645.out, GE645.out, NB636_645.out, NB645_636.out, NB637_645.out, NB645_637.out, (bS3 HB.out GE636.out GE637.out GE645.out)⟩)
   ·refine bs_ (cs := #[.slice none 0 0, .slice none 0 0, .slice none 0 0]) (t := 26) ?_; intro gb645 hg w12 hbox hb; have BK645 := Aside0.mk (hbox); have GW645 := gE hg (bS2 HB.out GE636.out GE637.out); have GE645 := gE hg (bS2 HB.out GE636.out GE637.out); replace HB := hS2 HB GE636 GE637 hb; have NB636_645 := nL hg BK636; have NB645_636 := nG hg BK636; replace BK636 := kB BK636 hb; have NB637_645 := nL hg BK637; have NB645_637 := nG hg BK637; replace BK637 := kB BK637 hb; clear hb hbox hg; refine hK.out _ _ (bC4 BK636.out) (fun hHeld => ?_); clear hK K; refine nm_ 5 ?_; refine one_ (i := 2) (N := some 17) (bl 9 159) rfl rfl (one_of HT_.out (by kernel_rfl)) (by decide) (fun K hK => ?_); refine gS_ Try.func34 #[.slice A0_0 l0_0.length c0_0] ?_
    with_reducible refine (slices_Clone_string_string.calls _ _ l0_0 t639 _ ?s1 ?s2 A4.out).mono ?_
    (case s1 => exact cB HR0_0 HB)
    (case s2 => exact HC0_0.out)
    rintro e w13 ⟨v640, rfl, ho0, hb⟩; refine ⟨_, rfl, ?_⟩; have HO641 := rW ho0 (bS3 HB.out GE636.out GE637.out GE645.out); replace BK636 := kB BK636 hb; replace BK637 := kB BK637 hb; replace BK645 := kB BK645 hb; replace HB := hS3 HB GE636 GE637 GE645 hb
    (try clear hb)
    (try clear hb2)
    (try clear hk)
    (try clear hi)
    (try clear ho0)
    refine hK.out _ _ (bC4 BK636.out) (fun hHeld => ?_); clear hK K; refine nm_ 17 ?_; refine one_ (i := 5) (N := some 20) (bl 9 191) rfl rfl (one_of HT_.out (by kernel_rfl)) (by decide) (fun K hK => ?_); refine gS_ Try.func35 #[.slice A0_1 l0_1.length c0_1] ?_
    with_reducible refine (slices_Clone_bool_bool.calls _ _ l0_1 t642 _ ?s1 ?s2 A5.out).mono ?_
    (case s1 => exact cB HR0_1 HB)
    (case s2 => exact HC0_1.out)
    rintro e w14 ⟨v643, rfl, ho0, hb⟩; refine ⟨_, rfl, ?_⟩; replace HO641 := rB HO641 hb; have HO644 := rW ho0 (bS3 HB.out GE636.out GE637.out GE645.out); replace BK636 := kB BK636 hb; replace BK637 := kB BK637 hb; replace BK645 := kB BK645 hb; replace HB := hS3 HB GE636 GE637 GE645 hb
    (try clear hb)
    (try clear hb2)
    (try clear hk)
    (try clear hi)
    (try clear ho0)
    obtain ⟨Ao15, co15, eo15⟩ := Kd.R_slice HO644.out
    (first | subst eo15 | (injection eo15 with f1_ f2_ f3_; have f4_ := f1_.symm; have f5_ := f3_.symm; clear f1_ f2_ f3_; subst f4_; subst f5_))
    obtain ⟨Ao16, co16, eo16⟩ := Kd.R_slice HO641.out
    (first | subst eo16 | (injection eo16 with f1_ f2_ f3_; have f4_ := f1_.symm; have f5_ := f3_.symm; clear f1_ f2_ f3_; subst f4_; subst f5_))
    refine hK.out _ _ (bC4 BK636.out) (fun hHeld => ?_); clear hK K; refine nm_ 20 ?_; refine pu_ 6 21 (bl 9 255) HT_ ?_; exact norm_ (by simp only [putAll, Act.put, sA, sB, sC]) (hCont (.slice Ao16 t639.length co16, .slice Ao15 t642.length co15, gb645) _ ⟨hHeld, (rO HO641.out), (rO HO644.out), (kO BK636.out), (kO BK637.out), (kO BK645.out), GW645.out, GE645.out, NB636_645.out, NB645_636.out, NB637_645.out, NB645_637.out, (bS3 HB.out GE636.out GE637.out GE645.out)⟩)
  rintro ⟨v640, v643, gb645⟩ w17 ⟨hS_, h0_, h1_, h2_, h3_, h4_, h5_, h6_, h7_, h8_, h9_, h10_, h11_⟩; (try dsimp only at hS_ h0_ h1_ h2_ h3_ h4_ h5_ h6_ h7_ h8_ h9_ h10_ h11_); clear BK636 BK637 HB; have HO641 := Aside0.mk h0_; have HO644 := Aside0.mk h1_; have BK636 := Aside0.mk h2_; have BK637 := Aside0.mk h3_; have BK645 := Aside0.mk h4_; have GW645 := Aside0.mk h5_; have GE645 := Aside0.mk h6_; have NB636_645 := Aside0.mk h7_; have NB645_636 := Aside0.mk h8_; have NB637_645 := Aside0.mk h9_; have NB645_637 := Aside0.mk h10_; have HB := Aside0.mk h11_; clear h0_ h1_ h2_ h3_ h4_ h5_ h6_ h7_ h8_ h9_ h10_ h11_; have hHeld := hS_; obtain ⟨Ao18, co18, eo18⟩ := Kd.R_slice HO644.out
  (first | subst eo18 | (injection eo18 with f1_ f2_ f3_; have f4_ := f1_.symm; have f5_ := f3_.symm; clear f1_ f2_ f3_; subst f4_; subst f5_))
  obtain ⟨Ao19, co19, eo19⟩ := Kd.R_slice HO641.out
  (first | subst eo19 | (injection eo19 with f1_ f2_ f3_; have f4_ := f1_.symm; have f5_ := f3_.symm; clear f1_ f2_ f3_; subst f4_; subst f5_))
  refine norm_ (a' := ?_) ?_ ?_; rotate_left
  ·simp only [putAll, Act.put, sA, sB, sC]
   rfl
  refine one_ (i := 8) (N := none) (bl 9 511) rfl rfl (one_of HT_.out (by kernel_rfl)) (by decide) (fun K hK => ?_); have hs20 : w17.cell? ⟨gb645, 0, none⟩ = some (.slice none 0 0) := (blk_cell BK645.out 0).trans rfl; have hfs20 := blk_frozen BK645.out 0; have hns20_0 := NB636_645.out; have hns20_1 := NB637_645.out; have hms20_0 := NB645_636.out; have hms20_1 := NB645_637.out; have hs21 : w17.cell? ⟨gb645, 1, none⟩ = some (.slice none 0 0) := (blk_cell BK645.out 1).trans rfl; have hfs21 := blk_frozen BK645.out 1; have hns21_0 := NB636_645.out; have hns21_1 := NB637_645.out; have hms21_0 := NB645_636.out; have hms21_1 := NB645_637.out; have hs22 : w17.cell? ⟨gb645, 2, none⟩ = some (.slice none 0 0) := (blk_cell BK645.out 2).trans rfl; have hfs22 := blk_frozen BK645.out 2; have hns22_0 := NB636_645.out; have hns22_1 := NB637_645.out; have hms22_0 := NB645_636.out; have hms22_1 := NB645_637.out; refine skip_ (w1 := ?_) (by rfl) rfl ?_ ?_; rotate_left
  ·go_simp
   rfl
  refine hK.out _ _ ⟨((cell_far (p := ⟨gb645, _, none⟩) NB636_645.out _).trans (((cell_far (p := ⟨gb645, _, none⟩) NB636_645.out _).trans (((cell_far (p := ⟨gb645, _, none⟩) NB636_645.out _).trans (hHeld.1)))))), ((cell_far (p := ⟨gb645, _, none⟩) NB636_645.out _).trans (((cell_far (p := ⟨gb645, _, none⟩) NB636_645.out _).trans (((cell_far (p := ⟨gb645, _, none⟩) NB636_645.out _).trans (hHeld.2.1)))))), ((cell_far (p := ⟨gb645, _, none⟩) NB636_645.out _).trans (((cell_far (p := ⟨gb645, _, none⟩) NB636_645.out _).trans (((cell_far (p := ⟨gb645, _, none⟩) NB636_645.out _).trans (hHeld.2.2.1)))))), ((cell_far (p := ⟨gb645, _, none⟩) NB636_645.out _).trans (((cell_far (p := ⟨gb645, _, none⟩) NB636_645.out _).trans (((cell_far (p := ⟨gb645, _, none⟩) NB636_645.out _).trans (hHeld.2.2.2))))))⟩ (fun hHeld => ?_); clear hK K; refine done_ (done_of HT_.out (by kernel_rfl)) ?_; have hnb23 := NB636_645.out; have hnc23 := NB645_636.out; obtain ⟨hcz24_0, hcz24_1, hcz24_2, hcz24_3, hfz24_0, hfz24_1, hfz24_2, hfz24_3⟩ := bF4 BK636.out
  try go_wp2
  go_loopg [25] k (fun kq v25 w' => ∃ (x25_1 : Int) (x646002_1 : List (List Int)) (u646002 : Value), v25 = .int .i64 x25_1 ∧ Aside0 (table_Unpack.l0 kq (l0_1.length : Int) x25_1 l0_0 l0_1 l0_2 l0_3 t639 t642 x646002_1 = some (r1, r2, r3, r4)) ∧ Aside0 (kq ≤ k) ∧ Aside0 (Kd.R Kd.string 9 w' w.heap.size (fun _ => True) (.slice Ao19 t639.length co19) t639) ∧ Aside0 (Kd.R Kd.bool 4 w' w.heap.size (fun _ => True) (.slice Ao18 t642.length co18) t642) ∧ Aside0 (Kd.S (Kd.slice 3 (Kd.int .i64)) 29 w' w.heap.size (fun _ => True) u646002 x646002_1) ∧ Aside0 (w'.heap[gb636]? = some (.cells #[(.slice A0_0 l0_0.length c0_0), (.slice A0_1 l0_1.length c0_1), (.slice A0_2 l0_2.length c0_2), (.slice A0_3 l0_3.length c0_3)] 32 (0, 0))) ∧ Aside0 (w'.heap[gb637]? = some (.cells #[(.slice none 0 0), (.slice none 0 0), (.slice none 0 0)] 26 (0, 0))) ∧ Aside0 (w'.heap[gb645]? = some (.cells #[(.slice Ao19 t639.length co19), (.slice Ao18 t642.length co18), u646002] 26 (0, 0))) ∧ Aside0 (Below w.heap.size w w'))
  case atStart => exact ⟨(0), (([] : List (List Int))), (.slice none 0 0), sI, H', ⟨Nat.le_refl _⟩, ⟨rZ HO641 BK645⟩, ⟨rZ HO644 BK645⟩, ⟨by first | exact Kd.S_nil _ _ _ _ _ | exact Kd.N_nil _ _ _ _ _ | exact Kd.V_nil _ _ _ _ _ | exact Kd.Q_nil _ _ _ _ _ | exact Kd.R_nil _ _ _ _ _⟩, ⟨kN BK636 NB636_645⟩, ⟨kN BK637 NB637_645⟩, ⟨by (with_reducible repeat (first | refine blk_drewN ?_ _ | refine blk_drew ?_ | refine blk_alloc ?_ _)); exact blk_put (blk_put (blk_put BK645.out 0 _ rfl) 1 _ rfl) 2 _ rfl⟩, ⟨bS3 HB.out GE636.out GE637.out GE645.out⟩⟩
  case round =>
   clear H'
   try clear c2
   try clear p2
   try clear c3
   try clear c3b0
   try clear c3b1
   try clear c8
   try clear c23
   try clear hcz24_0
   try clear hcz24_1
   try clear hcz24_2
   try clear hcz24_3
   try clear hcz9_0
   try clear hcz9_1
   try clear hcz9_2
   try clear hcz9_3
   try clear hfz24_0
   try clear hfz24_1
   try clear hfz24_2
   try clear hfz24_3
   try clear hfz9_0
   try clear hfz9_1
   try clear hfz9_2
   try clear hfz9_3
   obtain ⟨x25_1, x646002_1, u646002, rfl, HA, HK1, HO_646000, HO_646001, HO_646002, BK636, BK637, BK645, HB⟩ := hrel; cases gk with
   | zero => exact absurd HA.out (by simp [table_Unpack.l0])
   | succ k1 =>
    have H := HA.out; clear HA; simp only [table_Unpack.l0] at H
    by_cases c25 : x25_1 < (l0_1.length : Int)
    ·rw [if_pos c25] at H; have c25b0 := decide_eq_true c25; clear c25; replace H := Option.bind_eq_some_iff.mp H; obtain ⟨t646, A260, H⟩ := H; replace H : ((row_Unpack.f k1 t646 (l0_0.length : Int)).bind fun bt649 => (if bt649.2 = 0 then (if x646002_1.length < 5864062014805 then (table_Unpack.l0 k1 (l0_1.length : Int) (wrap64 (x25_1 + 1)) l0_0 l0_1 l0_2 l0_3 t639 t642 (x646002_1 ++ [bt649.1])) else (none)) else (some (([] : List ByteArray), ([] : List Bool), ([] : List (List Int)), bt649.2)))) = some (r1, r2, r3, r4) := H; have A26 := Aside0.mk A260; clear A260; replace H := Option.bind_eq_some_iff.mp H; obtain ⟨⟨t649, t650⟩, A270, H⟩ := H; replace H : (if t650 = 0 then (if x646002_1.length < 5864062014805 then (table_Unpack.l0 k1 (l0_1.length : Int) (wrap64 (x25_1 + 1)) l0_0 l0_1 l0_2 l0_3 t639 t642 (x646002_1 ++ [t649])) else (none)) else (some (([] : List ByteArray), ([] : List Bool), ([] : List (List Int)), t650))) = some (r1, r2, r3, r4) := H; have A27 := Aside0.mk A270; clear A270
     by_cases c28 : t650 = 0
     ·rw [if_pos c28] at H; obtain ⟨c28b0, c28b1⟩ := bq c28; clear c28
      by_cases c29 : x646002_1.length < 5864062014805
      ·rw [if_pos c29] at H; have LMc29 := Aside0.mk c29; clear c29; obtain ⟨y653, hy653⟩ : ∃ y_ : List (List Int), y_ = (x646002_1 ++ [t649]) := ⟨_, rfl⟩
       replace H : (table_Unpack.l0 k1 (l0_1.length : Int) (wrap64 (x25_1 + 1)) l0_0 l0_1 l0_2 l0_3 t639 t642 y653) = some (r1, r2, r3, r4) := rH hy653 H
       have Ny653 := Aside0.mk hy653; clear hy653; have H' := Aside0.mk H; clear H
       try go_wp2
       replace HO_646000 := Aside0.mk (Kd.R_drew HO_646000.out); replace HO_646001 := Aside0.mk (Kd.R_drew HO_646001.out); replace HO_646002 := Aside0.mk (Kd.S_drew HO_646002.out); replace BK636 := kD BK636; replace BK637 := kD BK637; replace BK645 := kD BK645; replace HB := Aside0.mk (below_drew1 HB.out); refine start_ (n := 12) (S := fun w' => w'.cell? ⟨gb636, 0, none⟩ = some (.slice A0_0 l0_0.length c0_0) ∧ w'.cell? ⟨gb636, 1, none⟩ = some (.slice A0_1 l0_1.length c0_1) ∧ w'.cell? ⟨gb636, 2, none⟩ = some (.slice A0_2 l0_2.length c0_2) ∧ w'.cell? ⟨gb636, 3, none⟩ = some (.slice A0_3 l0_3.length c0_3)) (ds := []) (bl 12 0) (by kernel_rfl) rfl rfl (bC4 BK636.out) (fun hHeld => ?_); refine with_tabW table_Unpack.tab8 table_Unpack.bits8 (fun HT_ HW_ => ?_); generalize wr.drew = w30 at HO_646000 HO_646001 HO_646002 BK636 BK637 BK645 HB hHeld ⊢; refine pu_ 1 30 (bl 12 2) HT_ ?_; refine pu_ 3 32 (bl 12 10) HT_ ?_; refine tk4_ 0 29 (bl 12 11) HT_ HW_ hHeld ?_; refine tk4_ 4 33 (bl 12 27) HT_ HW_ hHeld ?_; refine pu_ 5 34 (bl 12 59) HT_ ?_; refine one_ (i := 2) (N := some 31) (bl 12 63) rfl rfl (one_of HT_.out (by kernel_rfl)) (by decide) (fun K hK => ?_); refine gS_ Try.func48 #[.agg #[.slice A0_0 l0_0.length c0_0, .slice A0_1 l0_1.length c0_1, .slice A0_2 l0_2.length c0_2, .slice A0_3 l0_3.length c0_3], .int .i64 x25_1] ?_
       with_reducible refine (table_rowOf.calls _ _ l0_0 _ _ l0_1 _ _ l0_2 (fun k_ => k_ < w.heap.size) _ _ l0_3 x25_1 t646 _ ?s1 ?s2 ?s3 ?s4 ?s5 ?s6 ?s7 A26.out).mono ?_
       (case s1 => exact cB HR0_0 HB)
       (case s2 => exact HC0_0.out)
       (case s3 => exact cB HR0_1 HB)
       (case s4 => exact HC0_1.out)
       (case s5 => exact cB HR0_2 HB)
       (case s6 => exact HC0_2.out)
       (case s7 => exact Kd.V_mk HC0_3.out (Kd.F_below (Kd.C_F k58_heap HR0_3.out) (bS3 HB.out GE636.out GE637.out GE645.out)))
       rintro e w31 ⟨v647, rfl, ho0, hb⟩; refine ⟨_, rfl, ?_⟩; have HO648 := Aside0.mk (Kd.V_lower (Kd.V_mono (ok' := fun k_ => some k_ ≠ (.slice Ao19 t639.length co19 : Value).ownBlock ∧ some k_ ≠ (.slice Ao18 t642.length co18 : Value).ownBlock ∧ some k_ ≠ (u646002 : Value).ownBlock ∧ k_ ≠ gb636 ∧ k_ ≠ gb637 ∧ k_ ≠ gb645) ho0 (fun k_ hk_ => ⟨Or.elim hk_ (fun hs_ => fun e_ => Nat.not_le.2 hs_ (Kd.R_base HO_646000.out k_ e_.symm)) (fun hn_ => (Kd.fresh' (Kd.R_lt (rO HO_646000.out)) k_ hn_)), Or.elim hk_ (fun hs_ => fun e_ => Nat.not_le.2 hs_ (Kd.R_base HO_646001.out k_ e_.symm)) (fun hn_ => (Kd.fresh' (Kd.R_lt (rO HO_646001.out)) k_ hn_)), Or.elim hk_ (fun hs_ => fun e_ => Nat.not_le.2 hs_ (Kd.S_base HO_646002.out k_ e_.symm)) (fun hn_ => (Kd.fresh' (Kd.S_lt (by (with_reducible repeat (first | apply Kd.S_alloc | apply Kd.S_drewN | apply Kd.S_drew)); exact HO_646002.out)) k_ hn_)), Or.elim hk_ (fun hs_ => fun e_ => Nat.not_le.2 hs_ (by rw [e_]; exact GW636.out)) (fun hn_ => (Kd.freshB (g := gb636) (o := .cells #[.slice A0_0 l0_0.length c0_0, .slice A0_1 l0_1.length c0_1, .slice A0_2 l0_2.length c0_2, .slice A0_3 l0_3.length c0_3] 32 (0, 0)) (kO BK636.out) k_ hn_)), Or.elim hk_ (fun hs_ => fun e_ => Nat.not_le.2 hs_ (by rw [e_]; exact GW637.out)) (fun hn_ => (Kd.freshB (g := gb637) (o := .cells #[.slice none 0 0, .slice none 0 0, .slice none 0 0] 26 (0, 0)) (kO BK637.out) k_ hn_)), Or.elim hk_ (fun hs_ => fun e_ => Nat.not_le.2 hs_ (by rw [e_]; exact GW645.out)) (fun hn_ => (Kd.freshB (g := gb645) (o := .cells #[.slice Ao19 t639.length co19, .slice Ao18 t642.length co18, u646002] 26 (0, 0)) (kO BK645.out) k_ hn_))⟩)) (below_size (bS3 HB.out GE636.out GE637.out GE645.out))); replace HO_646000 := rB HO_646000 hb; replace HO_646001 := rB HO_646001 hb; replace HO_646002 := Aside0.mk (Kd.S_below (by (with_reducible repeat (first | apply Kd.S_alloc | apply Kd.S_drewN | apply Kd.S_drew)); exact HO_646002.out) hb); replace BK636 := kB BK636 hb; replace BK637 := kB BK637 hb; replace BK645 := kB BK645 hb; replace HB := hS3 HB GE636 GE637 GE645 hb
       (try clear hb)
       (try clear hb2)
       (try clear hk)
       (try clear hi)
       (try clear ho0)
       obtain ⟨Ao32, co32, eo32⟩ := Kd.V_slice HO648.out
       (first | subst eo32 | (injection eo32 with f1_ f2_ f3_; have f4_ := f1_.symm; have f5_ := f3_.symm; clear f1_ f2_ f3_; subst f4_; subst f5_))
       refine hK.out _ _ (bC4 BK636.out) (fun hHeld => ?_); clear hK K; refine nm_ 31 ?_; refine one_ (i := 6) (N := some 35) (bl 12 127) rfl rfl (one_of HT_.out (by kernel_rfl)) (by decide) (fun K hK => ?_); refine gS_ Try.func53 #[.slice Ao32 t646.length co32, .int .i64 (l0_0.length : Int)] ?_
       with_reducible refine (row_Unpack.calls k1 _ _ t646 (l0_0.length : Int) t649 t650 _ ?s1 ?s2 A27.out).mono ?_
       (case s1 => exact cO (Kd.V_reads' HO648.out).2.2)
       (case s2 => exact (Kd.V_reads' HO648.out).2.1)
       rintro e w33 ⟨v651, rfl, ho0, hb⟩; refine ⟨_, rfl, ?_⟩; replace HO_646000 := rB HO_646000 hb; replace HO_646001 := rB HO_646001 hb; replace HO_646002 := Aside0.mk (Kd.S_elder' (by (with_reducible repeat (first | apply Kd.S_alloc | apply Kd.S_drewN | apply Kd.S_drew)); exact HO_646002.out) (Kd.R_base ho0) hb); replace HO648 := Aside0.mk (Kd.V_elder' (vO HO648.out) (Kd.R_base ho0) hb); have HO652 := rW ho0 (bS3 HB.out GE636.out GE637.out GE645.out); replace BK636 := kB BK636 hb; replace BK637 := kB BK637 hb; replace BK645 := kB BK645 hb; replace HB := hS3 HB GE636 GE637 GE645 hb
       (try clear hb)
       (try clear hb2)
       (try clear hk)
       (try clear hi)
       (try clear ho0)
       refine hK.out _ _ (bC4 BK636.out) (fun hHeld => ?_); clear hK K; refine nm_ 35 ?_; refine pu_ 7 28 (bl 12 255) HT_ ?_; refine pu_ 8 36 (bl 12 511) HT_ ?_; refine pu_ 9 37 (bl 12 1023) HT_ ?_; refine pu_ 10 7 (bl 12 2047) HT_ ?_; refine pu_ 11 8 (bl 12 4095) HT_ ?_; refine done_ (done_of HT_.out (by kernel_rfl)) ?_; have hnb34 := NB645_636.out; have hnc34 := NB636_645.out; have hnb35 := NB645_637.out; have hnc35 := NB637_645.out; obtain ⟨hcz36_0, hcz36_1, hcz36_2, hfz36_0, hfz36_1, hfz36_2⟩ := bF3 BK645.out; obtain ⟨Ao38, co38, eo38⟩ := Kd.R_slice HO652.out; subst eo38
       try go_wp2_with (first | ((with_reducible refine gate_builtin (b := .append) (xs := #[.tmp 43, .tmp 45]) rfl ?_); at_builtin; refine Kd.S_append (Kd.slice 3 (Kd.int .i64)) (w0 := w) w.heap.size rfl (.tmp 43) (.tmp 45) 24 29 (.slice none 0 0) 24 rfl Try.underlying24 info29 rfl (by decide) (by omega) u646002 x646002_1 t649 [.slice Ao38 t649.length co38] (fun _ => True) (fun k_ => some k_ = (.slice Ao38 t649.length co38 : Value).ownBlock) rfl rfl ?aP (fun k_ hk_ => ((Kd.R_mono (ok' := fun k_ => ((fun _ => True)) k_ ∧ some k_ ≠ (u646002 : Value).ownBlock) (Kd.R_apart' (HO652.out) (Kd.S_typed HO_646002.out) (by decide)) (fun k_ hk => ⟨trivial, hk.2⟩))).1 k_ hk_.symm) ?aF ?aO ?aB ?aS ?aL ?_; (case aP => exact Kd.M_row (Kd.R_mono (Kd.R_tight rfl (Kd.R_mono (ok' := fun k_ => ((fun _ => True)) k_ ∧ some k_ ≠ (u646002 : Value).ownBlock) (Kd.R_apart' (HO652.out) (Kd.S_typed HO_646002.out) (by decide)) (fun k_ hk => ⟨trivial, hk.2⟩))) (fun _ h_ => h_))); (case aB => exact (bS3 HB.out GE636.out GE637.out GE645.out)); (case aF => exact (fun _ _ => trivial)); (case aO => exact (by (with_reducible repeat (first | apply Kd.S_alloc | apply Kd.S_drewN | apply Kd.S_drew)); exact Kd.S_mono HO_646002.out (fun k_ hk => ⟨trivial, fun e_ => hk.2 e_⟩))); (case aS => exact (below_size (bS3 HB.out GE636.out GE637.out GE645.out))); (case aL => have := LMc29.out; omega); intro v654 w37 ho hb hg hat; rw [← Ny653.out] at ho; replace HO_646000 := Aside0.mk (Kd.R_over' (rO HO_646000.out) (Kd.S_typed (by (with_reducible repeat (first | apply Kd.S_alloc | apply Kd.S_drewN | apply Kd.S_drew)); exact HO_646002.out)) (by decide) hg); replace HO_646001 := Aside0.mk (Kd.R_over' (rO HO_646001.out) (Kd.S_typed (by (with_reducible repeat (first | apply Kd.S_alloc | apply Kd.S_drewN | apply Kd.S_drew)); exact HO_646002.out)) (by decide) hg); replace BK636 := Aside0.mk (blk_grown (g := gb636) (o := .cells #[.slice A0_0 l0_0.length c0_0, .slice A0_1 l0_1.length c0_1, .slice A0_2 l0_2.length c0_2, .slice A0_3 l0_3.length c0_3] 32 (0, 0)) (kO BK636.out) hg (Kd.S_ne HO_646002.out BK636.out (by decide))); replace BK637 := Aside0.mk (blk_grown (g := gb637) (o := .cells #[.slice none 0 0, .slice none 0 0, .slice none 0 0] 26 (0, 0)) (kO BK637.out) hg (Kd.S_ne HO_646002.out BK637.out (by decide))); replace BK645 := Aside0.mk (blk_grown (g := gb645) (o := .cells #[.slice Ao19 t639.length co19, .slice Ao18 t642.length co18, u646002] 26 (0, 0)) (kO BK645.out) hg (Kd.S_ne HO_646002.out BK645.out (by decide))); replace HO648 := Aside0.mk (Kd.V_afterv (ok := (fun k_ => some k_ ≠ (.slice Ao19 t639.length co19 : Value).ownBlock ∧ some k_ ≠ (.slice Ao18 t642.length co18 : Value).ownBlock ∧ some k_ ≠ (.slice Ao38 t649.length co38 : Value).ownBlock ∧ k_ ≠ gb636 ∧ k_ ≠ gb637 ∧ k_ ≠ gb645)) (by (with_reducible repeat (first | apply Kd.V_alloc | apply Kd.V_drewN | apply Kd.V_drew)); exact Kd.V_mono HO648.out (fun _ hk => ⟨⟨hk.1.1, ⟨hk.1.2.1, ⟨hk.2, ⟨hk.1.2.2.2.1, ⟨hk.1.2.2.2.2.1, hk.1.2.2.2.2.2⟩⟩⟩⟩⟩, hk.1.2.2.1⟩)) hg hat); replace HB := Aside0.mk (hb); have HO655 := Aside0.mk (ho); clear HO_646002; clear HO652; clear ho hb hg hat; obtain ⟨Ao39, co39, eo39⟩ := Kd.S_slice HO655.out; subst eo39; obtain ⟨hcz40_0, hcz40_1, hcz40_2, hfz40_0, hfz40_1, hfz40_2⟩ := bF3 BK645.out))
       go_roundg k1
       case measure => have := HK1.out; omega
       case rel => exact ⟨(wrap64 (x25_1 + 1)), (y653), (.slice Ao39 y653.length co39), sI, H', ⟨by have := HK1.out; omega⟩, ⟨rZ HO_646000 BK645⟩, ⟨rZ HO_646001 BK645⟩, ⟨sZ HO655 BK645⟩, ⟨kN BK636 NB636_645⟩, ⟨kN BK637 NB637_645⟩, ⟨by (with_reducible repeat (first | refine blk_drewN ?_ _ | refine blk_drew ?_ | refine blk_alloc ?_ _)); exact blk_put BK645.out 2 _ rfl⟩, ⟨bS3 HB.out GE636.out GE637.out GE645.out⟩⟩
      ·rw [if_neg c29] at H; exact absurd H (by simp)
     ·rw [if_neg c28] at H; obtain ⟨c28b0, c28b1⟩ := bn c28; simp only [Option.some.injEq, Prod.mk.injEq] at H; obtain ⟨rfl, rfl, rfl, rfl⟩ := H
      try go_wp2
      replace HO_646000 := Aside0.mk (Kd.R_drew HO_646000.out); replace HO_646001 := Aside0.mk (Kd.R_drew HO_646001.out); replace HO_646002 := Aside0.mk (Kd.S_drew HO_646002.out); replace BK636 := kD BK636; replace BK637 := kD BK637; replace BK645 := kD BK645; replace HB := Aside0.mk (below_drew1 HB.out); refine start_ (n := 12) (S := fun w' => w'.cell? ⟨gb636, 0, none⟩ = some (.slice A0_0 l0_0.length c0_0) ∧ w'.cell? ⟨gb636, 1, none⟩ = some (.slice A0_1 l0_1.length c0_1) ∧ w'.cell? ⟨gb636, 2, none⟩ = some (.slice A0_2 l0_2.length c0_2) ∧ w'.cell? ⟨gb636, 3, none⟩ = some (.slice A0_3 l0_3.length c0_3)) (ds := []) (bl 12 0) (by kernel_rfl) rfl rfl (bC4 BK636.out) (fun hHeld => ?_); refine with_tabW table_Unpack.tab8 table_Unpack.bits8 (fun HT_ HW_ => ?_); generalize wr.drew = w41 at HO_646000 HO_646001 HO_646002 BK636 BK637 BK645 HB hHeld ⊢; refine pu_ 1 30 (bl 12 2) HT_ ?_; refine pu_ 3 32 (bl 12 10) HT_ ?_; refine tk4_ 0 29 (bl 12 11) HT_ HW_ hHeld ?_; refine tk4_ 4 33 (bl 12 27) HT_ HW_ hHeld ?_; refine pu_ 5 34 (bl 12 59) HT_ ?_; refine one_ (i := 2) (N := some 31) (bl 12 63) rfl rfl (one_of HT_.out (by kernel_rfl)) (by decide) (fun K hK => ?_); refine gS_ Try.func48 #[.agg #[.slice A0_0 l0_0.length c0_0, .slice A0_1 l0_1.length c0_1, .slice A0_2 l0_2.length c0_2, .slice A0_3 l0_3.length c0_3], .int .i64 x25_1] ?_
      with_reducible refine (table_rowOf.calls _ _ l0_0 _ _ l0_1 _ _ l0_2 (fun k_ => k_ < w.heap.size) _ _ l0_3 x25_1 t646 _ ?s1 ?s2 ?s3 ?s4 ?s5 ?s6 ?s7 A26.out).mono ?_
      (case s1 => exact cB HR0_0 HB)
      (case s2 => exact HC0_0.out)
      (case s3 => exact cB HR0_1 HB)
      (case s4 => exact HC0_1.out)
      (case s5 => exact cB HR0_2 HB)
      (case s6 => exact HC0_2.out)
      (case s7 => exact Kd.V_mk HC0_3.out (Kd.F_below (Kd.C_F k58_heap HR0_3.out) (bS3 HB.out GE636.out GE637.out GE645.out)))
      rintro e w42 ⟨v647, rfl, ho0, hb⟩; refine ⟨_, rfl, ?_⟩; have HO648 := Aside0.mk (Kd.V_lower (Kd.V_mono (ok' := fun k_ => some k_ ≠ (.slice Ao19 t639.length co19 : Value).ownBlock ∧ some k_ ≠ (.slice Ao18 t642.length co18 : Value).ownBlock ∧ some k_ ≠ (u646002 : Value).ownBlock ∧ k_ ≠ gb636 ∧ k_ ≠ gb637 ∧ k_ ≠ gb645) ho0 (fun k_ hk_ => ⟨Or.elim hk_ (fun hs_ => fun e_ => Nat.not_le.2 hs_ (Kd.R_base HO_646000.out k_ e_.symm)) (fun hn_ => (Kd.fresh' (Kd.R_lt (rO HO_646000.out)) k_ hn_)), Or.elim hk_ (fun hs_ => fun e_ => Nat.not_le.2 hs_ (Kd.R_base HO_646001.out k_ e_.symm)) (fun hn_ => (Kd.fresh' (Kd.R_lt (rO HO_646001.out)) k_ hn_)), Or.elim hk_ (fun hs_ => fun e_ => Nat.not_le.2 hs_ (Kd.S_base HO_646002.out k_ e_.symm)) (fun hn_ => (Kd.fresh' (Kd.S_lt (by (with_reducible repeat (first | apply Kd.S_alloc | apply Kd.S_drewN | apply Kd.S_drew)); exact HO_646002.out)) k_ hn_)), Or.elim hk_ (fun hs_ => fun e_ => Nat.not_le.2 hs_ (by rw [e_]; exact GW636.out)) (fun hn_ => (Kd.freshB (g := gb636) (o := .cells #[.slice A0_0 l0_0.length c0_0, .slice A0_1 l0_1.length c0_1, .slice A0_2 l0_2.length c0_2, .slice A0_3 l0_3.length c0_3] 32 (0, 0)) (kO BK636.out) k_ hn_)), Or.elim hk_ (fun hs_ => fun e_ => Nat.not_le.2 hs_ (by rw [e_]; exact GW637.out)) (fun hn_ => (Kd.freshB (g := gb637) (o := .cells #[.slice none 0 0, .slice none 0 0, .slice none 0 0] 26 (0, 0)) (kO BK637.out) k_ hn_)), Or.elim hk_ (fun hs_ => fun e_ => Nat.not_le.2 hs_ (by rw [e_]; exact GW645.out)) (fun hn_ => (Kd.freshB (g := gb645) (o := .cells #[.slice Ao19 t639.length co19, .slice Ao18 t642.length co18, u646002] 26 (0, 0)) (kO BK645.out) k_ hn_))⟩)) (below_size (bS3 HB.out GE636.out GE637.out GE645.out))); replace HO_646000 := rB HO_646000 hb; replace HO_646001 := rB HO_646001 hb; replace HO_646002 := Aside0.mk (Kd.S_below (by (with_reducible repeat (first | apply Kd.S_alloc | apply Kd.S_drewN | apply Kd.S_drew)); exact HO_646002.out) hb); replace BK636 := kB BK636 hb; replace BK637 := kB BK637 hb; replace BK645 := kB BK645 hb; replace HB := hS3 HB GE636 GE637 GE645 hb
      (try clear hb)
      (try clear hb2)
      (try clear hk)
      (try clear hi)
      (try clear ho0)
      obtain ⟨Ao43, co43, eo43⟩ := Kd.V_slice HO648.out
      (first | subst eo43 | (injection eo43 with f1_ f2_ f3_; have f4_ := f1_.symm; have f5_ := f3_.symm; clear f1_ f2_ f3_; subst f4_; subst f5_))
      refine hK.out _ _ (bC4 BK636.out) (fun hHeld => ?_); clear hK K; refine nm_ 31 ?_; refine one_ (i := 6) (N := some 35) (bl 12 127) rfl rfl (one_of HT_.out (by kernel_rfl)) (by decide) (fun K hK => ?_); refine gS_ Try.func53 #[.slice Ao43 t646.length co43, .int .i64 (l0_0.length : Int)] ?_
      with_reducible refine (row_Unpack.calls k1 _ _ t646 (l0_0.length : Int) t649 t650 _ ?s1 ?s2 A27.out).mono ?_
      (case s1 => exact cO (Kd.V_reads' HO648.out).2.2)
      (case s2 => exact (Kd.V_reads' HO648.out).2.1)
      rintro e w44 ⟨v651, rfl, ho0, hb⟩; refine ⟨_, rfl, ?_⟩; replace HO_646000 := rB HO_646000 hb; replace HO_646001 := rB HO_646001 hb; replace HO_646002 := Aside0.mk (Kd.S_elder' (by (with_reducible repeat (first | apply Kd.S_alloc | apply Kd.S_drewN | apply Kd.S_drew)); exact HO_646002.out) (Kd.R_base ho0) hb); replace HO648 := Aside0.mk (Kd.V_elder' (vO HO648.out) (Kd.R_base ho0) hb); have HO652 := rW ho0 (bS3 HB.out GE636.out GE637.out GE645.out); replace BK636 := kB BK636 hb; replace BK637 := kB BK637 hb; replace BK645 := kB BK645 hb; replace HB := hS3 HB GE636 GE637 GE645 hb
      (try clear hb)
      (try clear hb2)
      (try clear hk)
      (try clear hi)
      (try clear ho0)
      refine hK.out _ _ (bC4 BK636.out) (fun hHeld => ?_); clear hK K; refine nm_ 35 ?_; refine pu_ 7 28 (bl 12 255) HT_ ?_; refine pu_ 8 36 (bl 12 511) HT_ ?_; refine pu_ 9 37 (bl 12 1023) HT_ ?_; refine pu_ 10 7 (bl 12 2047) HT_ ?_; refine pu_ 11 8 (bl 12 4095) HT_ ?_; refine done_ (done_of HT_.out (by kernel_rfl)) ?_; have hnb45 := NB637_636.out; have hnc45 := NB636_637.out; have hnb46 := NB637_645.out; have hnc46 := NB645_637.out; obtain ⟨hcz47_0, hcz47_1, hcz47_2, hfz47_0, hfz47_1, hfz47_2⟩ := bF3 BK637.out
      try go_wp2
      refine bodyPost_ret (results_ct rfl _ _ gb637 26 #[.slice none 0 0, .slice none 0 0, .slice none 0 0] (0, 0) _ rfl (by (with_reducible repeat (first | refine blk_drewN ?_ _ | refine blk_drew ?_ | refine blk_alloc ?_ _)); exact blk_put (blk_put (blk_put BK637.out 0 _ rfl) 1 _ rfl) 2 _ rfl) Try.underlying26 rfl (by kernel_rfl)) rfl ?_; exact ⟨_, _, _, eW, by first | exact Kd.R_nil _ _ _ _ _ | exact Kd.N_nil _ _ _ _ _ | exact Kd.V_nil _ _ _ _ _ | exact Kd.Q_nil _ _ _ _ _ | exact Kd.S_nil _ _ _ _ _, by first | exact Kd.R_nil _ _ _ _ _ | exact Kd.N_nil _ _ _ _ _ | exact Kd.V_nil _ _ _ _ _ | exact Kd.Q_nil _ _ _ _ _ | exact Kd.S_nil _ _ _ _ _, by first | exact Kd.S_nil _ _ _ _ _ | exact Kd.N_nil _ _ _ _ _ | exact Kd.V_nil _ _ _ _ _ | exact Kd.Q_nil _ _ _ _ _ | exact Kd.R_nil _ _ _ _ _, bS3 HB.out GE636.out GE637.out GE645.out⟩
    ·rw [if_neg c25] at H; have c25b0 := decide_eq_false c25; clear c25; simp only [Option.some.injEq, Prod.mk.injEq] at H; obtain ⟨rfl, rfl, rfl, rfl⟩ := H; have hnb48 := NB645_636.out; have hnc48 := NB636_645.out; have hnb49 := NB645_637.out; have hnc49 := NB637_645.out; obtain ⟨hcz50_0, hcz50_1, hcz50_2, hfz50_0, hfz50_1, hfz50_2⟩ := bF3 BK645.out; have hnb51 := NB637_636.out; have hnc51 := NB636_637.out; obtain ⟨hcz52_0, hcz52_1, hcz52_2, hfz52_0, hfz52_1, hfz52_2⟩ := bF3 BK637.out; obtain ⟨Ao53, co53, eo53⟩ := Kd.S_slice HO_646002.out; subst eo53
     go_wp2
     refine bodyPost_ret (results_ct rfl _ _ gb637 26 #[.slice Ao19 t639.length co19, .slice Ao18 t642.length co18, .slice Ao53 x646002_1.length co53] (0, 0) _ rfl (by (with_reducible repeat (first | refine blk_drewN ?_ _ | refine blk_drew ?_ | refine blk_alloc ?_ _)); exact blk_put (blk_put (blk_put BK637.out 0 _ rfl) 1 _ rfl) 2 _ rfl) Try.underlying26 rfl (by kernel_rfl)) rfl ?_; exact ⟨_, _, _, eW, rZ HO_646000 BK637, rZ HO_646001 BK637, sZ HO_646002 BK637, bS3 HB.out GE636.out GE637.out GE645.out⟩
 ·rw [if_neg c3] at H; obtain ⟨c3b0, c3b1⟩ := bn c3; simp only [Option.some.injEq, Prod.mk.injEq] at H; obtain ⟨rfl, rfl, rfl, rfl⟩ := H
  go_enter Try.func27, Try.ntmps27
  go_wp2_with (first | ((with_reducible refine gate_dst (N := 1) rfl ?_); refine be_ (cs := #[.slice A0_0 l0_0.length c0_0, .slice A0_1 l0_1.length c0_1, .slice A0_2 l0_2.length c0_2, .slice A0_3 l0_3.length c0_3]) (t := 32) ?_; intro gb636 hg w54 hbox hb; have BK636 := Aside0.mk (hbox); have GW636 := gE hg (bO HB.out); have GE636 := gE hg (bO HB.out); replace HB := hS0 HB hb; clear hb hbox hg) | ((with_reducible refine gate_dst (N := 2) rfl ?_); refine be_ (cs := #[.slice none 0 0, .slice none 0 0, .slice none 0 0]) (t := 26) ?_; intro gb637 hg w55 hbox hb; have BK637 := Aside0.mk (hbox); have GW637 := gE hg (bS1 HB.out GE636.out); have GE637 := gE hg (bS1 HB.out GE636.out); replace HB := hS1 HB GE636 hb; have NB636_637 := nL hg BK636; have NB637_636 := nG hg BK636; replace BK636 := kB BK636 hb; clear hb hbox hg; have hnb56 := NB636_637.out; have hnc56 := NB637_636.out; obtain ⟨hcz57_0, hcz57_1, hcz57_2, hcz57_3, hfz57_0, hfz57_1, hfz57_2, hfz57_3⟩ := bF4 BK636.out) | ((with_reducible refine gate_callee (f := 29) rfl ?_); refine gL_ (some 10) Try.func29 #[.agg #[.slice A0_0 l0_0.length c0_0, .slice A0_1 l0_1.length c0_1, .slice A0_2 l0_2.length c0_2, .slice A0_3 l0_3.length c0_3]] ?_; (with_reducible refine (table_Check.calls k _ _ l0_0 _ _ l0_1 _ _ l0_2 _ _ l0_3 t638 _ ?s1 ?s2 ?s3 ?s4 ?s5 ?s6 ?s7 ?s8 A2.out).mono ?_); (case s1 => exact cB HR0_0 HB); (case s2 => exact HC0_0.out); (case s3 => exact cB HR0_1 HB); (case s4 => exact HC0_1.out); (case s5 => exact cB HR0_2 HB); (case s6 => exact HC0_2.out); (case s7 => exact cB HR0_3 HB); (case s8 => exact HC0_3.out); rintro e w58 ⟨rfl, hb⟩; refine ⟨_, rfl, ?_⟩; replace BK636 := kB BK636 hb; replace BK637 := kB BK637 hb; replace HB := hS2 HB GE636 GE637 hb; (try clear hb); (try clear hb2); (try clear hk); (try clear hi); obtain ⟨hcz59_0, hcz59_1, hcz59_2, hfz59_0, hfz59_1, hfz59_2⟩ := bF3 BK637.out))
  refine bodyPost_ret (results_ct rfl _ _ gb637 26 #[.slice none 0 0, .slice none 0 0, .slice none 0 0] (0, 0) _ rfl (by (with_reducible repeat (first | refine blk_drewN ?_ _ | refine blk_drew ?_ | refine blk_alloc ?_ _)); exact blk_put (blk_put (blk_put BK637.out 0 _ rfl) 1 _ rfl) 2 _ rfl) Try.underlying26 rfl (by kernel_rfl)) rfl ?_; exact ⟨_, _, _, eW, by first | exact Kd.R_nil _ _ _ _ _ | exact Kd.N_nil _ _ _ _ _ | exact Kd.V_nil _ _ _ _ _ | exact Kd.Q_nil _ _ _ _ _ | exact Kd.S_nil _ _ _ _ _, by first | exact Kd.R_nil _ _ _ _ _ | exact Kd.N_nil _ _ _ _ _ | exact Kd.V_nil _ _ _ _ _ | exact Kd.Q_nil _ _ _ _ _ | exact Kd.S_nil _ _ _ _ _, by first | exact Kd.S_nil _ _ _ _ _ | exact Kd.N_nil _ _ _ _ _ | exact Kd.V_nil _ _ _ _ _ | exact Kd.Q_nil _ _ _ _ _ | exact Kd.R_nil _ _ _ _ _, bS2 HB.out GE636.out GE637.out⟩

end Go.Proofs.Ytghfclgcgecgdaa.X
namespace Go.Proofs.Ytghfclgcgecgdaa.X
open Go.RowKit Go.Proofs.YtghfclgcgecgdaaW.PrintWords Go.Proofs.YtghfclgcgecgdaaW.PrintLast Go.Proofs.YtghfclgcgecgdaaW.PrintMore
attribute [local go_sem] max2_int min2_int max_two min_two max_three min_three max_four min_four
set_option linter.unusedVariables false
set_option linter.unusedSimpArgs false

/-! ### table_Most: function 28 -/
def table_Most.l0 : Nat → Int → Int → Int → List ByteArray → List Bool → List Int → List (S58) → Option (Int × Int)
 | 0, _, _, _, _, _, _, _ => none
 | k + 1, x5, x14, x15, x657000, x657001, x657002, x657003 => if x15 < x14 then ((table_rowOf.f x657000 x657001 x657002 x657003 x15).bind fun t658 => (table_Most.l0 k (mx x5 (t658.length : Int)) x14 (wrap64 (x15 + 1)) x657000 x657001 x657002 x657003)) else (some (x5, 0))
def table_Most.f (k : Nat) (l0_0 : List ByteArray) (l0_1 : List Bool) (l0_2 : List Int) (l0_3 : List (S58)) : Option (Int × Int) := (table_Check.f k l0_0 l0_1 l0_2 l0_3).bind fun t657 => (if t657 = 0 then (table_Most.l0 k 0 (l0_1.length : Int) 0 l0_0 l0_1 l0_2 l0_3) else (some (0, t657)))
theorem table_Most.mono_l : ∀ k, (∀ y0 y1 y2 y3 y4 y5 y6, LeO (table_Most.l0 k y0 y1 y2 y3 y4 y5 y6) (table_Most.l0 (k + 1) y0 y1 y2 y3 y4 y5 y6))
 | 0 => fun _ _ _ _ _ _ _ r h => by simp [table_Most.l0] at h
 | k + 1 => by
  have ih0 := table_Most.mono_l k
  ·intro y0 y1 y2 y3 y4 y5 y6
   unfold table_Most.l0
   repeat' first | (with_reducible first | exact ih0 _ _ _ _ _ _ _ | exact table_Check.mono _ _ _ _ _ | exact lA | apply lI | refine lB ?_ fun _ => ?_) | exact lN _ | apply lI | refine lB ?_ fun _ => ?_
theorem table_Most.mono : ∀ a0 a1 a2 a3 k, LeO (table_Most.f k a0 a1 a2 a3) (table_Most.f (k + 1) a0 a1 a2 a3) := by
 intro a0 a1 a2 a3 k; have ih0 := table_Most.mono_l k
 unfold table_Most.f
 repeat' first | (with_reducible first | exact ih0 _ _ _ _ _ _ _ | exact table_Check.mono _ _ _ _ _ | exact lA | apply lI | refine lB ?_ fun _ => ?_) | exact lN _ | apply lI | refine lB ?_ fun _ => ?_
set_option maxHeartbeats 8000000 in
set_option maxRecDepth 100000 in
theorem table_Most.calls (k : Nat) (A0_0 : Option Addr) (c0_0 : Nat) (l0_0 : List ByteArray) (A0_1 : Option Addr) (c0_1 : Nat) (l0_1 : List Bool) (A0_2 : Option Addr) (c0_2 : Nat) (l0_2 : List Int) (A0_3 : Option Addr) (c0_3 : Nat) (l0_3 : List (S58)) (r1 : Int) (r2 : Int) (w : World) (hr0_0 : Kd.C Kd.string w A0_0 l0_0.length l0_0) (hc0_0 : l0_0.length ≤ c0_0) (hr0_1 : Kd.C Kd.bool w A0_1 l0_1.length l0_1) (hc0_1 : l0_1.length ≤ c0_1) (hr0_2 : Kd.C (Kd.int .i64) w A0_2 l0_2.length l0_2) (hc0_2 : l0_2.length ≤ c0_2) (hr0_3 : Kd.C k58 w A0_3 l0_3.length l0_3) (hc0_3 : l0_3.length ≤ c0_3) (h : table_Most.f k l0_0 l0_1 l0_2 l0_3 = some (r1, r2)) :
  Calls Try.prog 28 #[.agg #[.slice A0_0 l0_0.length c0_0, .slice A0_1 l0_1.length c0_1, .slice A0_2 l0_2.length c0_2, .slice A0_3 l0_3.length c0_3]] w fun e w' => e = .returned (.tuple #[.int .i64 r1, .int .i64 r2]) ∧ Below w.heap.size w w' := by
 have hu32 := Try.underlying32; have HR0_0 := Aside0.mk hr0_0; have HC0_0 := Aside0.mk hc0_0; clear hr0_0 hc0_0; have HR0_1 := Aside0.mk hr0_1; have HC0_1 := Aside0.mk hc0_1; clear hr0_1 hc0_1; have HR0_2 := Aside0.mk hr0_2; have HC0_2 := Aside0.mk hc0_2; clear hr0_2 hc0_2; have HR0_3 := Aside0.mk hr0_3; have HC0_3 := Aside0.mk hc0_3; clear hr0_3 hc0_3; have HB := Aside0.mk (Below.refl w.heap.size w); have H : ((table_Check.f k l0_0 l0_1 l0_2 l0_3).bind fun t657 => (if t657 = 0 then (table_Most.l0 k 0 (l0_1.length : Int) 0 l0_0 l0_1 l0_2 l0_3) else (some (0, t657)))) = some (r1, r2) := h; clear h; replace H := Option.bind_eq_some_iff.mp H; obtain ⟨t657, A20, H⟩ := H; replace H : (if t657 = 0 then (table_Most.l0 k 0 (l0_1.length : Int) 0 l0_0 l0_1 l0_2 l0_3) else (some (0, t657))) = some (r1, r2) := H; have A2 := Aside0.mk A20; clear A20
 by_cases c3 : t657 = 0
 ·rw [if_pos c3] at H; obtain ⟨c3b0, c3b1⟩ := bq c3; clear c3; have H' := Aside0.mk H; clear H
  go_enter Try.func28, Try.ntmps28
  go_wp2_with (first | ((with_reducible refine gate_dst (N := 1) rfl ?_); refine be_ (cs := #[.slice A0_0 l0_0.length c0_0, .slice A0_1 l0_1.length c0_1, .slice A0_2 l0_2.length c0_2, .slice A0_3 l0_3.length c0_3]) (t := 32) ?_; intro gb656 hg w4 hbox hb; have BK656 := Aside0.mk (hbox); have GW656 := gE hg (bO HB.out); have GE656 := gE hg (bO HB.out); replace HB := hS0 HB hb; clear hb hbox hg; obtain ⟨hcz5_0, hcz5_1, hcz5_2, hcz5_3, hfz5_0, hfz5_1, hfz5_2, hfz5_3⟩ := bF4 BK656.out) | ((with_reducible refine gate_callee (f := 29) rfl ?_); refine gL_ (some 8) Try.func29 #[.agg #[.slice A0_0 l0_0.length c0_0, .slice A0_1 l0_1.length c0_1, .slice A0_2 l0_2.length c0_2, .slice A0_3 l0_3.length c0_3]] ?_; (with_reducible refine (table_Check.calls k _ _ l0_0 _ _ l0_1 _ _ l0_2 _ _ l0_3 t657 _ ?s1 ?s2 ?s3 ?s4 ?s5 ?s6 ?s7 ?s8 A2.out).mono ?_); (case s1 => exact cB HR0_0 HB); (case s2 => exact HC0_0.out); (case s3 => exact cB HR0_1 HB); (case s4 => exact HC0_1.out); (case s5 => exact cB HR0_2 HB); (case s6 => exact HC0_2.out); (case s7 => exact cB HR0_3 HB); (case s8 => exact HC0_3.out); rintro e w6 ⟨rfl, hb⟩; refine ⟨_, rfl, ?_⟩; replace BK656 := kB BK656 hb; replace HB := hS1 HB GE656 hb; (try clear hb); (try clear hb2); (try clear hk); (try clear hi); obtain ⟨hcz7_0, hcz7_1, hcz7_2, hcz7_3, hfz7_0, hfz7_1, hfz7_2, hfz7_3⟩ := bF4 BK656.out))
  go_loopg [5, 15] k (fun kq v5 v15 w' => ∃ (x5_1 : Int) (x15_1 : Int), v5 = .int .i64 x5_1 ∧ v15 = .int .i64 x15_1 ∧ Aside0 (table_Most.l0 kq x5_1 (l0_1.length : Int) x15_1 l0_0 l0_1 l0_2 l0_3 = some (r1, r2)) ∧ Aside0 (kq ≤ k) ∧ Aside0 (w'.heap[gb656]? = some (.cells #[(.slice A0_0 l0_0.length c0_0), (.slice A0_1 l0_1.length c0_1), (.slice A0_2 l0_2.length c0_2), (.slice A0_3 l0_3.length c0_3)] 32 (0, 0))) ∧ Aside0 (Below w.heap.size w w'))
  case atStart => exact ⟨(0), (0), sI, sI, H', ⟨Nat.le_refl _⟩, ⟨kO BK656.out⟩, ⟨bS1 HB.out GE656.out⟩⟩
  case round =>
   clear H'
   try clear c2
   try clear p2
   try clear c3
   try clear c3b0
   try clear c3b1
   try clear hcz5_0
   try clear hcz5_1
   try clear hcz5_2
   try clear hcz5_3
   try clear hcz7_0
   try clear hcz7_1
   try clear hcz7_2
   try clear hcz7_3
   try clear hfz5_0
   try clear hfz5_1
   try clear hfz5_2
   try clear hfz5_3
   try clear hfz7_0
   try clear hfz7_1
   try clear hfz7_2
   try clear hfz7_3
   obtain ⟨x5_1, x15_1, rfl, rfl, HA, HK1, BK656, HB⟩ := hrel; cases gk with
   | zero => exact absurd HA.out (by simp [table_Most.l0])
   | succ k1 =>
    have H := HA.out; clear HA; simp only [table_Most.l0] at H
    by_cases c8 : x15_1 < (l0_1.length : Int)
    ·rw [if_pos c8] at H; have c8b0 := decide_eq_true c8; clear c8; replace H := Option.bind_eq_some_iff.mp H; obtain ⟨t658, A90, H⟩ := H; replace H : (table_Most.l0 k1 (mx x5_1 (t658.length : Int)) (l0_1.length : Int) (wrap64 (x15_1 + 1)) l0_0 l0_1 l0_2 l0_3) = some (r1, r2) := H; have A9 := Aside0.mk A90; clear A90; obtain ⟨ji10, hji10⟩ : ∃ j_ : Int, (mx x5_1 (t658.length : Int)) = j_ := ⟨_, rfl⟩
     replace H : (table_Most.l0 k1 ji10 (l0_1.length : Int) (wrap64 (x15_1 + 1)) l0_0 l0_1 l0_2 l0_3) = some (r1, r2) := by first | (rw [hji10] at H; exact H) | (simp only [hji10] at H ⊢; exact H)
     (try rw [hji10] at A9)
     have hji10_ : (if x5_1 < (t658.length : Int) then (t658.length : Int) else x5_1) = ji10 := hji10; have H' := Aside0.mk H; clear H; obtain ⟨hcz11_0, hcz11_1, hcz11_2, hcz11_3, hfz11_0, hfz11_1, hfz11_2, hfz11_3⟩ := bF4 BK656.out
     go_wp2_with (first | ((with_reducible refine gate_callee (f := 48) rfl ?_); refine gL_ (some 21) Try.func48 #[.agg #[.slice A0_0 l0_0.length c0_0, .slice A0_1 l0_1.length c0_1, .slice A0_2 l0_2.length c0_2, .slice A0_3 l0_3.length c0_3], .int .i64 x15_1] ?_; (with_reducible refine (table_rowOf.calls _ _ l0_0 _ _ l0_1 _ _ l0_2 (fun k_ => k_ < w.heap.size) _ _ l0_3 x15_1 t658 _ ?s1 ?s2 ?s3 ?s4 ?s5 ?s6 ?s7 A9.out).mono ?_); (case s1 => exact cB HR0_0 HB); (case s2 => exact HC0_0.out); (case s3 => exact cB HR0_1 HB); (case s4 => exact HC0_1.out); (case s5 => exact cB HR0_2 HB); (case s6 => exact HC0_2.out); (case s7 => exact Kd.V_mk HC0_3.out (Kd.F_below (Kd.C_F k58_heap HR0_3.out) (bS1 HB.out GE656.out))); rintro e w12 ⟨v659, rfl, ho0, hb⟩; refine ⟨_, rfl, ?_⟩; have HO660 := Aside0.mk (Kd.V_lower (Kd.V_mono (ok' := fun k_ => k_ ≠ gb656) ho0 (fun k_ hk_ => Or.elim hk_ (fun hs_ => fun e_ => Nat.not_le.2 hs_ (by rw [e_]; exact GW656.out)) (fun hn_ => (Kd.freshB (g := gb656) (o := .cells #[.slice A0_0 l0_0.length c0_0, .slice A0_1 l0_1.length c0_1, .slice A0_2 l0_2.length c0_2, .slice A0_3 l0_3.length c0_3] 32 (0, 0)) (kO BK656.out) k_ hn_)))) (below_size (bS1 HB.out GE656.out))); replace BK656 := kB BK656 hb; replace HB := hS1 HB GE656 hb; (try clear hb); (try clear hb2); (try clear hk); (try clear hi); (try clear ho0); obtain ⟨Ao13, co13, eo13⟩ := Kd.V_slice HO660.out; subst eo13))
     go_roundg k1
     case measure => have := HK1.out; omega
     case rel => exact ⟨(ji10), (wrap64 (x15_1 + 1)), (by first | rfl | (simp; done) | (simp only [← hji10] <;> (first | rfl | simp)) | (simp [*]; done)), sI, H', ⟨by have := HK1.out; omega⟩, ⟨kO BK656.out⟩, ⟨bS1 HB.out GE656.out⟩⟩
    ·rw [if_neg c8] at H; have c8b0 := decide_eq_false c8; clear c8; simp only [Option.some.injEq, Prod.mk.injEq] at H; obtain ⟨rfl, rfl⟩ := H
     go_wp2
     go_ret2
     exact ⟨eW, bS1 HB.out GE656.out⟩
 ·rw [if_neg c3] at H; obtain ⟨c3b0, c3b1⟩ := bn c3; simp only [Option.some.injEq, Prod.mk.injEq] at H; obtain ⟨rfl, rfl⟩ := H
  go_enter Try.func28, Try.ntmps28
  go_wp2_with (first | ((with_reducible refine gate_dst (N := 1) rfl ?_); refine be_ (cs := #[.slice A0_0 l0_0.length c0_0, .slice A0_1 l0_1.length c0_1, .slice A0_2 l0_2.length c0_2, .slice A0_3 l0_3.length c0_3]) (t := 32) ?_; intro gb656 hg w14 hbox hb; have BK656 := Aside0.mk (hbox); have GW656 := gE hg (bO HB.out); have GE656 := gE hg (bO HB.out); replace HB := hS0 HB hb; clear hb hbox hg; obtain ⟨hcz15_0, hcz15_1, hcz15_2, hcz15_3, hfz15_0, hfz15_1, hfz15_2, hfz15_3⟩ := bF4 BK656.out) | ((with_reducible refine gate_callee (f := 29) rfl ?_); refine gL_ (some 8) Try.func29 #[.agg #[.slice A0_0 l0_0.length c0_0, .slice A0_1 l0_1.length c0_1, .slice A0_2 l0_2.length c0_2, .slice A0_3 l0_3.length c0_3]] ?_; (with_reducible refine (table_Check.calls k _ _ l0_0 _ _ l0_1 _ _ l0_2 _ _ l0_3 t657 _ ?s1 ?s2 ?s3 ?s4 ?s5 ?s6 ?s7 ?s8 A2.out).mono ?_); (case s1 => exact cB HR0_0 HB); (case s2 => exact HC0_0.out); (case s3 => exact cB HR0_1 HB); (case s4 => exact HC0_1.out); (case s5 => exact cB HR0_2 HB); (case s6 => exact HC0_2.out); (case s7 => exact cB HR0_3 HB); (case s8 => exact HC0_3.out); rintro e w16 ⟨rfl, hb⟩; refine ⟨_, rfl, ?_⟩; replace BK656 := kB BK656 hb; replace HB := hS1 HB GE656 hb; (try clear hb); (try clear hb2); (try clear hk); (try clear hi)))
  go_ret2
  exact ⟨eW, bS1 HB.out GE656.out⟩

/-! ### tabardref12_Most: function 30 -/
def tabardref12_Most.l0 : Nat → Int → Int → List ByteArray → List Bool → List Int → List (S58) → Option (Int)
 | 0, _, _, _, _, _, _ => none
 | k + 1, x3, x4, x662000, x662001, x662002, x662003 => if x4 < (x662001.length : Int) then (if 0 ≤ (wrap64 (x4 + 1)) then (if (wrap64 (x4 + 1)) < (x662002.length : Int) then (if 0 ≤ x4 then (if x4 < (x662002.length : Int) then (tabardref12_Most.l0 k (mx x3 (wrap64 ((rd x662002 (wrap64 (x4 + 1))) - (rd x662002 x4)))) (wrap64 (x4 + 1)) x662000 x662001 x662002 x662003) else (none)) else (none)) else (none)) else (none)) else (some x3)
def tabardref12_Most.f (k : Nat) (l0_0 : List ByteArray) (l0_1 : List Bool) (l0_2 : List Int) (l0_3 : List (S58)) : Option (Int) := tabardref12_Most.l0 k 0 0 l0_0 l0_1 l0_2 l0_3
theorem tabardref12_Most.mono_l : ∀ k, (∀ y0 y1 y2 y3 y4 y5, LeO (tabardref12_Most.l0 k y0 y1 y2 y3 y4 y5) (tabardref12_Most.l0 (k + 1) y0 y1 y2 y3 y4 y5))
 | 0 => fun _ _ _ _ _ _ r h => by simp [tabardref12_Most.l0] at h
 | k + 1 => by
  have ih0 := tabardref12_Most.mono_l k
  ·intro y0 y1 y2 y3 y4 y5
   unfold tabardref12_Most.l0
   repeat' first | (with_reducible first | exact ih0 _ _ _ _ _ _ | exact lA | apply lI | refine lB ?_ fun _ => ?_) | exact lN _ | apply lI | refine lB ?_ fun _ => ?_
theorem tabardref12_Most.mono : ∀ a0 a1 a2 a3 k, LeO (tabardref12_Most.f k a0 a1 a2 a3) (tabardref12_Most.f (k + 1) a0 a1 a2 a3) := by
 intro a0 a1 a2 a3 k; have ih0 := tabardref12_Most.mono_l k
 unfold tabardref12_Most.f
 repeat' first | (with_reducible first | exact ih0 _ _ _ _ _ _ | exact lA | apply lI | refine lB ?_ fun _ => ?_) | exact lN _ | apply lI | refine lB ?_ fun _ => ?_
set_option maxHeartbeats 8000000 in
set_option maxRecDepth 100000 in
theorem tabardref12_Most.calls (k : Nat) (A0_0 : Option Addr) (c0_0 : Nat) (l0_0 : List ByteArray) (A0_1 : Option Addr) (c0_1 : Nat) (l0_1 : List Bool) (A0_2 : Option Addr) (c0_2 : Nat) (l0_2 : List Int) (A0_3 : Option Addr) (c0_3 : Nat) (l0_3 : List (S58)) (r : Int) (w : World) (hr0_0 : Kd.C Kd.string w A0_0 l0_0.length l0_0) (hc0_0 : l0_0.length ≤ c0_0) (hr0_1 : Kd.C Kd.bool w A0_1 l0_1.length l0_1) (hc0_1 : l0_1.length ≤ c0_1) (hr0_2 : Kd.C (Kd.int .i64) w A0_2 l0_2.length l0_2) (hc0_2 : l0_2.length ≤ c0_2) (hr0_3 : Kd.C k58 w A0_3 l0_3.length l0_3) (hc0_3 : l0_3.length ≤ c0_3) (h : tabardref12_Most.f k l0_0 l0_1 l0_2 l0_3 = some r) :
  Calls Try.prog 30 #[.agg #[.slice A0_0 l0_0.length c0_0, .slice A0_1 l0_1.length c0_1, .slice A0_2 l0_2.length c0_2, .slice A0_3 l0_3.length c0_3]] w fun e w' => e = .returned (.int .i64 r) ∧ Below w.heap.size w w' := by
 have hu32 := Try.underlying32; have HR0_0 := Aside0.mk hr0_0; have HC0_0 := Aside0.mk hc0_0; clear hr0_0 hc0_0; have HR0_1 := Aside0.mk hr0_1; have HC0_1 := Aside0.mk hc0_1; clear hr0_1 hc0_1; have HR0_2 := Aside0.mk hr0_2; have HC0_2 := Aside0.mk hc0_2; clear hr0_2 hc0_2; have HR0_3 := Aside0.mk hr0_3; have HC0_3 := Aside0.mk hc0_3; clear hr0_3 hc0_3; have HB := Aside0.mk (Below.refl w.heap.size w); have H : (tabardref12_Most.l0 k 0 0 l0_0 l0_1 l0_2 l0_3) = some r := h; clear h; have H' := Aside0.mk H; clear H
 go_enter Try.func30, Try.ntmps30
 go_wp2_with (first | ((with_reducible refine gate_dst (N := 1) rfl ?_); refine be_ (cs := #[.slice A0_0 l0_0.length c0_0, .slice A0_1 l0_1.length c0_1, .slice A0_2 l0_2.length c0_2, .slice A0_3 l0_3.length c0_3]) (t := 32) ?_; intro gb661 hg w2 hbox hb; have BK661 := Aside0.mk (hbox); have GW661 := gE hg (bO HB.out); have GE661 := gE hg (bO HB.out); replace HB := hS0 HB hb; clear hb hbox hg))
 repeat (go_quiet (first | ((with_reducible refine gate_dst (N := 1) rfl ?_); refine be_ (cs := #[.slice A0_0 l0_0.length c0_0, .slice A0_1 l0_1.length c0_1, .slice A0_2 l0_2.length c0_2, .slice A0_3 l0_3.length c0_3]) (t := 32) ?_; intro gb661 hg w2 hbox hb; have BK661 := Aside0.mk (hbox); have GW661 := gE hg (bO HB.out); have GE661 := gE hg (bO HB.out); replace HB := hS0 HB hb; clear hb hbox hg)); try go_wp2_with (first | ((with_reducible refine gate_dst (N := 1) rfl ?_); refine be_ (cs := #[.slice A0_0 l0_0.length c0_0, .slice A0_1 l0_1.length c0_1, .slice A0_2 l0_2.length c0_2, .slice A0_3 l0_3.length c0_3]) (t := 32) ?_; intro gb661 hg w2 hbox hb; have BK661 := Aside0.mk (hbox); have GW661 := gE hg (bO HB.out); have GE661 := gE hg (bO HB.out); replace HB := hS0 HB hb; clear hb hbox hg)))
 go_loopg [3, 4] k (fun kq v3 v4 w' => ∃ (x3_1 : Int) (x4_1 : Int), v3 = .int .i64 x3_1 ∧ v4 = .int .i64 x4_1 ∧ Aside0 (tabardref12_Most.l0 kq x3_1 x4_1 l0_0 l0_1 l0_2 l0_3 = some r) ∧ Aside0 (kq ≤ k) ∧ Aside0 (w'.heap[gb661]? = some (.cells #[(.slice A0_0 l0_0.length c0_0), (.slice A0_1 l0_1.length c0_1), (.slice A0_2 l0_2.length c0_2), (.slice A0_3 l0_3.length c0_3)] 32 (0, 0))) ∧ Aside0 (Below w.heap.size w w'))
 case atStart => exact ⟨(0), (0), sI, sI, H', ⟨Nat.le_refl _⟩, ⟨kO BK661.out⟩, ⟨bS1 HB.out GE661.out⟩⟩
 case round =>
  clear H'
  try clear p2
  obtain ⟨x3_1, x4_1, rfl, rfl, HA, HK1, BK661, HB⟩ := hrel; cases gk with
  | zero => exact absurd HA.out (by simp [tabardref12_Most.l0])
  | succ k1 =>
   have H := HA.out; clear HA; simp only [tabardref12_Most.l0] at H
   by_cases c3 : x4_1 < (l0_1.length : Int)
   ·rw [if_pos c3] at H; have c3b0 := decide_eq_true c3; clear c3; obtain ⟨ji4, hji4⟩ : ∃ j_ : Int, (wrap64 (x4_1 + 1)) = j_ := ⟨_, rfl⟩
    replace H : (if 0 ≤ (ji4) then (if (ji4) < (l0_2.length : Int) then (if 0 ≤ x4_1 then (if x4_1 < (l0_2.length : Int) then (tabardref12_Most.l0 k1 (mx x3_1 (wrap64 ((rd l0_2 (ji4)) - (rd l0_2 x4_1)))) ji4 l0_0 l0_1 l0_2 l0_3) else (none)) else (none)) else (none)) else (none)) = some r := by first | (rw [hji4] at H; exact H) | (simp only [hji4] at H ⊢; exact H)
    have hji4w : (IntKind.i64.wrap (x4_1 + 1)) = ji4 := (i64_w _).trans hji4
    by_cases c5 : 0 ≤ (ji4)
    ·rw [if_pos c5] at H; have c5b0 := decide_eq_true c5; clear c5
     by_cases c6 : (ji4) < (l0_2.length : Int)
     ·rw [if_pos c6] at H; have c6b0 := decide_eq_true c6; clear c6
      by_cases c7 : 0 ≤ x4_1
      ·rw [if_pos c7] at H; have c7b0 := decide_eq_true c7; clear c7
       by_cases c8 : x4_1 < (l0_2.length : Int)
       ·rw [if_pos c8] at H; have c8b0 := decide_eq_true c8; clear c8; obtain ⟨ji9, hji9⟩ : ∃ j_ : Int, (mx x3_1 (wrap64 ((rd l0_2 (ji4)) - (rd l0_2 x4_1)))) = j_ := ⟨_, rfl⟩
        replace H : (tabardref12_Most.l0 k1 ji9 ji4 l0_0 l0_1 l0_2 l0_3) = some r := by first | (rw [hji9] at H; exact H) | (simp only [hji9] at H ⊢; exact H)
        have hji9_ : (if x3_1 < (wrap64 ((rd l0_2 (ji4)) - (rd l0_2 x4_1))) then (wrap64 ((rd l0_2 (ji4)) - (rd l0_2 x4_1))) else x3_1) = ji9 := hji9; have H' := Aside0.mk H; clear H; obtain ⟨hcz10_0, hcz10_1, hcz10_2, hcz10_3, hfz10_0, hfz10_1, hfz10_2, hfz10_3⟩ := bF4 BK661.out; have p662 : 0 ≤ ((ji4) : Int) := of_decide_eq_true aO; have q662 : (ji4) < (l0_2.length : Int) := of_decide_eq_true aO; obtain ⟨ad662, e662, hx662_0⟩ := Kd.at_int HR0_2.out (ji4) p662 q662; cases e662; replace hx662_0 := cX HB hx662_0; replace p662 := eq_true p662; replace q662 := eq_true q662; have p663 : 0 ≤ (x4_1 : Int) := of_decide_eq_true aO; have q663 : x4_1 < (l0_2.length : Int) := of_decide_eq_true aO; obtain ⟨ad663, e663, hx663_0⟩ := Kd.at_int HR0_2.out x4_1 p663 q663; have he_ : ad662 = ad663 := (by injection e663); subst he_; replace hx663_0 := cX HB hx663_0; replace p663 := eq_true p663; replace q663 := eq_true q663
        go_wp2
        repeat (go_quiet (fail); try go_wp2)
        go_roundg k1
        case measure => have := HK1.out; omega
        case rel => exact ⟨(ji9), (ji4), (by first | rfl | (simp; done) | (simp only [← hji9] <;> (first | rfl | simp)) | (simp [*]; done)), (by first | rfl | (simp; done) | (simp only [← hji4] <;> (first | rfl | simp)) | (simp [*]; done)), H', ⟨by have := HK1.out; omega⟩, ⟨kO BK661.out⟩, ⟨bS1 HB.out GE661.out⟩⟩
       ·rw [if_neg c8] at H; exact absurd H (by simp)
      ·rw [if_neg c7] at H; exact absurd H (by simp)
     ·rw [if_neg c6] at H; exact absurd H (by simp)
    ·rw [if_neg c5] at H; exact absurd H (by simp)
   ·rw [if_neg c3] at H; have c3b0 := decide_eq_false c3; clear c3; obtain rfl := Option.some.inj H; obtain ⟨hcz11_0, hcz11_1, hcz11_2, hcz11_3, hfz11_0, hfz11_1, hfz11_2, hfz11_3⟩ := bF4 BK661.out
    go_wp2
    repeat (go_quiet (fail); try go_wp2)
    go_ret
    exact ⟨eW, bS1 HB.out GE661.out⟩

end Go.Proofs.Ytghfclgcgecgdaa.X
