/- What the functions of this seat compute, and that the program's calls come to just that: written by this session's own program out of the translation; no condition. -/
import Derived.Test.YtbpeloobnjbgkaaX0
import Derived.Test.YtbpeloobnjbgkaaX14
import Derived.Test.YtbpeloobnjbgkaaX25
import Derived.Test.YtbpeloobnjbgkaaX29
namespace Go.Proofs.Ytbpeloobnjbgkaa.X
open Go.RowKit Go.Proofs.YtbpeloobnjbgkaaW.PrintWords Go.Proofs.YtbpeloobnjbgkaaW.PrintLast Go.Proofs.YtbpeloobnjbgkaaW.PrintMore
attribute [local go_sem] max2_int min2_int max_two min_two max_three min_three max_four min_four
set_option linter.unusedVariables false
set_option linter.unusedSimpArgs false
set_option maxHeartbeats 8000000
set_option maxRecDepth 100000

/-! ### tabardref13_Is: function 22 -/
def tabardref13_Is.f (k : Nat) (l0_0 : List ByteArray) (l0_1 : List Bool) (l0_2 : List (List Int)) : Option (Bool) := (tabardref12_Right.f k l0_0 l0_1 l0_2).bind fun t432 => (if t432 = true then ((tabardref13_Minimal.f k l0_0 l0_1 l0_2).bind fun bt433 => ((tabardref12_SameDense.f k l0_0 l0_1 l0_2 bt433.1 bt433.2.1 bt433.2.2).bind fun t442 => (some t442))) else (some false))
theorem tabardref13_Is.mono : ∀ a0 a1 a2 k, LeO (tabardref13_Is.f k a0 a1 a2) (tabardref13_Is.f (k + 1) a0 a1 a2) := by
 intro a0 a1 a2 k
 unfold tabardref13_Is.f
 repeat' first | (with_reducible first | exact tabardref12_Right.mono _ _ _ _ | exact tabardref12_SameDense.mono _ _ _ _ _ _ _ | exact tabardref13_Minimal.mono _ _ _ _ | exact lA | apply lI | refine lB ?_ fun _ => ?_) | exact lN _ | apply lI | refine lB ?_ fun _ => ?_
def tabardref13_Is.T1 : Bool × List (List Nat × List Nat) := (true, [([], []), ([0], [0]), ([1, 1], [1]), ([2], [2]), ([2], [2]), ([4, 2, 2], [2, 4]), ([3, 5, 5, 2], [2, 3, 5]), ([2, 6], [2, 6]), ([7, 6, 0, 1, 2, 3, 4, 5, 6, 7], [7])])
def tabardref13_Is.B1 : List Nat := [0, 1, 3, 7, 7, 23, 63, 127, 255]
theorem tabardref13_Is.tab1 : rtab .any (opsOf Try.f22 1) = tabardref13_Is.T1 := by kernel_rfl
theorem tabardref13_Is.bits1 : waitsOk tabardref13_Is.T1.2 tabardref13_Is.B1 = true := by kernel_rfl
theorem tabardref13_Is.calls (k : Nat) (F : Option Addr) (G : Nat) (A : List ByteArray) (I : Option Addr) (J : Nat) (B : List Bool) (L : Option Addr) (M : Nat) (D : List (List Int)) (r : Bool) (w : World) (ak : Kd.C Kd.string w F A.length A) (al : A.length ≤ G) (am : Kd.C Kd.bool w I B.length B) (an : B.length ≤ J) (ao : Kd.C (Kd.slice 3 (Kd.int .i64)) w L D.length D) (ap : D.length ≤ M) (h : tabardref13_Is.f k A B D = some r) :
  Calls Try.prog 22 #[.agg #[.slice F A.length G, .slice I B.length J, .slice L D.length M]] w fun e w' => e = .returned (.bool r) ∧ Below w.heap.size w w' := by
 have hu26 := Try.underlying26; have W := aM ak; have Y := aM al; clear ak al; have Z := aM am; have aa := aM an; clear am an; have ab := aM ao; have ac := aM ap; clear ao ap; have HB := aM (Below.refl w.heap.size w); rw [tabardref13_Is.f] at h; have H := h; clear h; apply bSx H; clear H; intro aE A2 H
 by_cases c3 : aE = true
 ·subst c3
  rw [if_pos rfl] at H; replace H := Option.bind_eq_some_iff.mp H; obtain ⟨⟨ad, ae, af⟩, az, H⟩ := H; replace H : ((tabardref12_SameDense.f k A B D ad ae af).bind fun aj => (some aj)) = some r := H; have A4 := aM az; clear az; apply bSx H; clear H; intro aj A5 H; obtain rfl := Option.some.inj H
  go_enter Try.func22, Try.ntmps22
  try go_wp2_with (first | ((with_reducible refine gate_dst (N := 1) rfl ?_); refine be_ (cs := #[.slice F A.length G, .slice I B.length J, .slice L D.length M]) (t := 26) ?_; intro O hg w6 ag hb; have z := aM (ag); have ax := gE hg (bP0 HB); have E := gE hg (bP0 HB); replace HB := hS0 HB hb; clear hb ag hg))
  replace z := kD z; replace HB := aM (below_drew1 HB.out); refine start_ (n := 9) (S := fun w' => w'.cell? ⟨O, 0, none⟩ = some (.slice F A.length G) ∧ w'.cell? ⟨O, 1, none⟩ = some (.slice I B.length J) ∧ w'.cell? ⟨O, 2, none⟩ = some (.slice L D.length M)) (ds := []) (bl 9 0) (by kernel_rfl) rfl rfl (bD3 z) (fun V => ?_); refine with_tabW tabardref13_Is.tab1 tabardref13_Is.bits1 (fun U ah => ?_); generalize w6.drew = w7 at z HB V ⊢; refine tk3_ 0 3 (bl 9 1) U ah V ?_; refine one_ (i := 1) (N := some 4) (bl 9 3) rfl rfl (one_of U.out (by kernel_rfl)) (by decide) (fun K hK => ?_); refine gS_ Try.func14 #[.agg #[.slice F A.length G, .slice I B.length J, .slice L D.length M]] ?_
  with_reducible refine (tabardref12_Right.calls k _ _ A _ _ B _ _ D true _ ?s1 ?s2 ?s3 ?s4 ?s5 ?s6 A2.out).mono ?_
  (case s1 => exact cB W HB)
  (case s2 => exact Y.out)
  (case s3 => exact cB Z HB)
  (case s4 => exact aa.out)
  (case s5 => exact cB ab HB)
  (case s6 => exact ac.out)
  rintro e w8 ⟨rfl, hb⟩; refine ⟨_, rfl, ?_⟩; replace z := kB z hb; replace HB := hS1 HB E hb
  (try clear hb)
  (try clear aq)
  (try clear hk)
  (try clear hi)
  refine hK.out _ _ (bD3 z) (fun V => ?_); clear hK K; refine nm_ 4 ?_; refine pu_ 2 5 (bl 9 7) U ?_; refine tk3_ 3 6 (bl 9 15) U ah V ?_; refine tk3_ 4 7 (bl 9 31) U ah V ?_; refine one_ (i := 5) (N := some 8) (bl 9 63) rfl rfl (one_of U.out (by kernel_rfl)) (by decide) (fun K hK => ?_); refine gS_ Try.func18 #[.agg #[.slice F A.length G, .slice I B.length J, .slice L D.length M]] ?_
  with_reducible refine (tabardref13_Minimal.calls k _ _ A _ _ B _ _ D ad ae af _ ?s1 ?s2 ?s3 ?s4 ?s5 ?s6 A4.out).mono ?_
  (case s1 => exact cB W HB)
  (case s2 => exact Y.out)
  (case s3 => exact cB Z HB)
  (case s4 => exact aa.out)
  (case s5 => exact cB ab HB)
  (case s6 => exact ac.out)
  rintro e w9 ⟨aR, aS, aT, rfl, aB, aC, aD, hb⟩; refine ⟨_, rfl, ?_⟩; have P := rW aB (bP1 HB E); have Q := rW aC (bP1 HB E); have R := aM (Kd.S_lower aD (below_size (bP1 HB E))); replace z := kB z hb; replace HB := hS1 HB E hb
  (try clear hb)
  (try clear aq)
  (try clear hk)
  (try clear hi)
  (try clear aB)
  (try clear aC)
  (try clear aD)
  obtain ⟨aF, aG, ar⟩ := sL P
  (first | subst ar | obtain ⟨rfl, rfl⟩ := iS ar)
  obtain ⟨aH, aI, au⟩ := sL Q
  (first | subst au | obtain ⟨rfl, rfl⟩ := iS au)
  obtain ⟨aJ, aK, av⟩ := Kd.S_slice R.out
  (first | subst av | obtain ⟨rfl, rfl⟩ := iS av)
  refine hK.out _ _ (bD3 z) (fun V => ?_); clear hK K; refine nm_ 8 ?_; refine one_ (i := 6) (N := some 9) (bl 9 127) rfl rfl (one_of U.out (by kernel_rfl)) (by decide) (fun K hK => ?_); refine gS_ Try.func13 #[.agg #[.slice F A.length G, .slice I B.length J, .slice L D.length M], .agg #[.slice aF ad.length aG, .slice aH ae.length aI, .slice aJ af.length aK]] ?_
  with_reducible refine (tabardref12_SameDense.calls k _ _ A _ _ B _ _ D _ _ ad _ _ ae _ _ af aj _ ?s1 ?s2 ?s3 ?s4 ?s5 ?s6 ?s7 ?s8 ?s9 ?s10 ?s11 ?s12 A5.out).mono ?_
  (case s1 => exact cB W HB)
  (case s2 => exact Y.out)
  (case s3 => exact cB Z HB)
  (case s4 => exact aa.out)
  (case s5 => exact cB ab HB)
  (case s6 => exact ac.out)
  (case s7 => exact cO (rR P).2.2)
  (case s8 => exact (rR P).2.1)
  (case s9 => exact cO (rR Q).2.2)
  (case s10 => exact (rR Q).2.1)
  (case s11 => exact cO (Kd.S_reads' R.out).2.2)
  (case s12 => exact (Kd.S_reads' R.out).2.1)
  rintro e aU ⟨rfl, hb⟩; refine ⟨_, rfl, ?_⟩; replace P := rB P hb; replace Q := rB Q hb; replace R := aM (Kd.S_below (by (with_reducible repeat (first | apply Kd.S_alloc | apply Kd.S_drewN | apply Kd.S_drew)); exact R.out) hb); replace z := kB z hb; replace HB := hS1 HB E hb
  (try clear hb)
  (try clear aq)
  (try clear hk)
  (try clear hi)
  refine hK.out _ _ (bD3 z) (fun V => ?_); clear hK K; refine nm_ 9 ?_; refine pu_ 7 10 (bl 9 255) U ?_; refine pu_ 8 2 (bl 9 511) U ?_; refine done_ (done_of U.out (by kernel_rfl)) ?_
  try go_wp2
  go_ret
  exact ⟨eW, bS1 HB.out E.out⟩
 ·replace c3 := Bool.eq_false_iff.mpr c3; subst c3
  rw [if_neg nF] at H; obtain rfl := Option.some.inj H
  go_enter Try.func22, Try.ntmps22
  try go_wp2_with (first | ((with_reducible refine gate_dst (N := 1) rfl ?_); refine be_ (cs := #[.slice F A.length G, .slice I B.length J, .slice L D.length M]) (t := 26) ?_; intro O hg aN ag hb; have z := aM (ag); have ax := gE hg (bP0 HB); have E := gE hg (bP0 HB); replace HB := hS0 HB hb; clear hb ag hg))
  replace z := kD z; replace HB := aM (below_drew1 HB.out); refine start_ (n := 9) (S := fun w' => w'.cell? ⟨O, 0, none⟩ = some (.slice F A.length G) ∧ w'.cell? ⟨O, 1, none⟩ = some (.slice I B.length J) ∧ w'.cell? ⟨O, 2, none⟩ = some (.slice L D.length M)) (ds := []) (bl 9 0) (by kernel_rfl) rfl rfl (bD3 z) (fun V => ?_); refine with_tabW tabardref13_Is.tab1 tabardref13_Is.bits1 (fun U ah => ?_); generalize aN.drew = aV at z HB V ⊢; refine tk3_ 0 3 (bl 9 1) U ah V ?_; refine one_ (i := 1) (N := some 4) (bl 9 3) rfl rfl (one_of U.out (by kernel_rfl)) (by decide) (fun K hK => ?_); refine gS_ Try.func14 #[.agg #[.slice F A.length G, .slice I B.length J, .slice L D.length M]] ?_
  with_reducible refine (tabardref12_Right.calls k _ _ A _ _ B _ _ D false _ ?s1 ?s2 ?s3 ?s4 ?s5 ?s6 A2.out).mono ?_
  (case s1 => exact cB W HB)
  (case s2 => exact Y.out)
  (case s3 => exact cB Z HB)
  (case s4 => exact aa.out)
  (case s5 => exact cB ab HB)
  (case s6 => exact ac.out)
  rintro e aW ⟨rfl, hb⟩; refine ⟨_, rfl, ?_⟩; replace z := kB z hb; replace HB := hS1 HB E hb
  (try clear hb)
  (try clear aq)
  (try clear hk)
  (try clear hi)
  refine hK.out _ _ (bD3 z) (fun V => ?_); clear hK K; refine nm_ 4 ?_; refine pu_ 2 5 (bl 9 7) U ?_; refine pn_ 3 6 (bl 9 15) U ?_; refine pn_ 4 7 (bl 9 31) U ?_; refine pn_ 5 8 (bl 9 63) U ?_; refine pn_ 6 9 (bl 9 127) U ?_; refine pu_ 7 10 (bl 9 255) U ?_; refine pu_ 8 2 (bl 9 511) U ?_; refine done_ (done_of U.out (by kernel_rfl)) ?_
  try go_wp2
  go_ret
  exact ⟨eW, bS1 HB.out E.out⟩

end Go.Proofs.Ytbpeloobnjbgkaa.X
