/- What the functions of this seat compute, and that the program's calls come to just that: written by this session's own program out of the translation; no condition. -/
import Derived.Test.YtbpeloobnjbgkaaX0
import Derived.Test.YtbpeloobnjbgkaaX18
import Derived.Test.YtbpeloobnjbgkaaX19
import Derived.Test.YtbpeloobnjbgkaaX30
import Derived.Test.YtbpeloobnjbgkaaX31
import Derived.Test.YtbpeloobnjbgkaaX33
namespace Go.Proofs.Ytbpeloobnjbgkaa.X
open Go.RowKit Go.Proofs.YtbpeloobnjbgkaaW.PrintWords Go.Proofs.YtbpeloobnjbgkaaW.PrintLast Go.Proofs.YtbpeloobnjbgkaaW.PrintMore
attribute [local go_sem] max2_int min2_int max_two min_two max_three min_three max_four min_four
set_option linter.unusedVariables false
set_option linter.unusedSimpArgs false
set_option maxHeartbeats 8000000
set_option maxRecDepth 100000

/-! ### tabardlaw13_CanonTells: function 7 -/
def tabardlaw13_CanonTells.f (k : Nat) (l0_0 : List ByteArray) (l0_1 : List Bool) (l0_2 : List (List Int)) : Option (Bool) := (tabardlaw13_fixed.f k).bind fun t495 => (if t495 = true then ((canon_Is.f k l0_0 l0_1 l0_2).bind fun t496 => ((tabardref13_Is.f k l0_0 l0_1 l0_2).bind fun t497 => (if (t496 == t497) = true then ((canon_Sound.f k l0_0 l0_1 l0_2).bind fun t498 => ((tabardref13_Sound.f k l0_0 l0_1 l0_2).bind fun t499 => (some (t498 == t499)))) else (some false)))) else (some false))
theorem tabardlaw13_CanonTells.mono : ∀ a0 a1 a2 k, LeO (tabardlaw13_CanonTells.f k a0 a1 a2) (tabardlaw13_CanonTells.f (k + 1) a0 a1 a2) := by
 intro a0 a1 a2 k
 unfold tabardlaw13_CanonTells.f
 repeat' first | (with_reducible first | exact canon_Is.mono _ _ _ _ | exact canon_Sound.mono _ _ _ _ | exact tabardlaw13_fixed.mono _ | exact tabardref13_Is.mono _ _ _ _ | exact tabardref13_Sound.mono _ _ _ _ | exact lA | apply lI | refine lB ?_ fun _ => ?_) | exact lN _ | apply lI | refine lB ?_ fun _ => ?_
def tabardlaw13_CanonTells.T1 : Bool × List (List Nat × List Nat) := (true, [([], []), ([0, 0], [0]), ([1], [1]), ([2, 1, 1], [1, 2]), ([1], [1]), ([4, 3, 1], [1, 4]), ([3, 5, 1], [1, 3, 5]), ([1, 6], [1, 6]), ([7, 5], [7]), ([8], [8]), ([9, 8, 8], [8, 9]), ([8], [8]), ([11, 10, 8], [8, 11]), ([10, 12, 8], [8, 10, 12]), ([8, 13], [8, 13]), ([14, 12, 0, 1, 2, 3, 4, 5, 6, 7, 8, 9, 10, 11, 12, 13, 14], [14])])
def tabardlaw13_CanonTells.B1 : List Nat := [0, 1, 3, 7, 3, 31, 63, 127, 255, 511, 1023, 511, 4095, 8191, 16383, 32767]
theorem tabardlaw13_CanonTells.tab1 : rtab .any (opsOf Try.f7 1) = tabardlaw13_CanonTells.T1 := by kernel_rfl
theorem tabardlaw13_CanonTells.bits1 : waitsOk tabardlaw13_CanonTells.T1.2 tabardlaw13_CanonTells.B1 = true := by kernel_rfl
theorem tabardlaw13_CanonTells.calls (k : Nat) (F : Option Addr) (G : Nat) (A : List ByteArray) (I : Option Addr) (J : Nat) (B : List Bool) (L : Option Addr) (M : Nat) (D : List (List Int)) (r : Bool) (w : World) (ac : Kd.C Kd.string w F A.length A) (ad : A.length ≤ G) (ae : Kd.C Kd.bool w I B.length B) (af : B.length ≤ J) (ag : Kd.C (Kd.slice 3 (Kd.int .i64)) w L D.length D) (ah : D.length ≤ M) (h : tabardlaw13_CanonTells.f k A B D = some r) :
  Calls Try.prog 7 #[.agg #[.slice F A.length G, .slice I B.length J, .slice L D.length M]] w fun e w' => e = .returned (.bool r) ∧ Below w.heap.size w w' := by
 have hu26 := Try.underlying26; have R := aM ac; have U := aM ad; clear ac ad; have V := aM ae; have W := aM af; clear ae af; have Y := aM ag; have Z := aM ah; clear ag ah; have HB := aM (Below.refl w.heap.size w); rw [tabardlaw13_CanonTells.f] at h; have H := h; clear h; apply bSx H; clear H; intro ap A2 H
 by_cases c3 : ap = true
 ·subst c3
  rw [if_pos rfl] at H; apply bSx H; clear H; intro P A4 H; apply bSx H; clear H; intro Q A5 H
  apply iB H <;> clear H <;> intro c6 H
  ·have ar : (P == Q) = true := c6
   (try (have au : decide (P = Q) = true := by simpa using c6))
   (try (have av : (P == Q) = true := by simpa using c6))
   clear c6; apply bSx H; clear H; intro aw A7 H; apply bSx H; clear H; intro ax A8 H; obtain rfl := Option.some.inj H
   go_enter Try.func7, Try.ntmps7
   try go_wp2_with (first | ((with_reducible refine gate_dst (N := 1) rfl ?_); refine be_ (cs := #[.slice F A.length G, .slice I B.length J, .slice L D.length M]) (t := 26) ?_; intro O hg w9 aq hb; have z := aM (aq); have ai := gE hg (bP0 HB); have E := gE hg (bP0 HB); replace HB := hS0 HB hb; clear hb aq hg))
   replace z := kD z; replace HB := aM (below_drew1 HB.out); refine start_ (n := 16) (S := fun w' => w'.cell? ⟨O, 0, none⟩ = some (.slice F A.length G) ∧ w'.cell? ⟨O, 1, none⟩ = some (.slice I B.length J) ∧ w'.cell? ⟨O, 2, none⟩ = some (.slice L D.length M)) (ds := []) (bl 16 0) (by kernel_rfl) rfl rfl (bD3 z) (fun aj => ?_); refine with_tabW tabardlaw13_CanonTells.tab1 tabardlaw13_CanonTells.bits1 (fun ab ay => ?_); generalize w9.drew = aG at z HB aj ⊢; refine one_ (i := 0) (N := some 3) (bl 16 1) rfl rfl (one_of ab.out (by kernel_rfl)) (by decide) (fun K hK => ?_); refine gS_ Try.func12 #[] ?_
   with_reducible refine (tabardlaw13_fixed.calls k  true _ A2.out).mono ?_
   rintro e aH ⟨rfl, hb⟩; refine ⟨_, rfl, ?_⟩; replace z := kB z hb; replace HB := hS1 HB E hb
   (try clear hb)
   (try clear aa)
   (try clear hk)
   (try clear hi)
   refine hK.out _ _ (bD3 z) (fun aj => ?_); clear hK K; refine nm_ 3 ?_; refine pu_ 1 4 (bl 16 3) ab ?_; refine tk3_ 2 5 (bl 16 7) ab ay aj ?_; refine tk3_ 4 7 (bl 16 23) ab ay aj ?_; refine one_ (i := 3) (N := some 6) (bl 16 31) rfl rfl (one_of ab.out (by kernel_rfl)) (by decide) (fun K hK => ?_); refine gS_ Try.func21 #[.agg #[.slice F A.length G, .slice I B.length J, .slice L D.length M]] ?_
   with_reducible refine (canon_Is.calls k _ _ A _ _ B _ _ D P _ ?s1 ?s2 ?s3 ?s4 ?s5 ?s6 A4.out).mono ?_
   (case s1 => exact cB R HB)
   (case s2 => exact U.out)
   (case s3 => exact cB V HB)
   (case s4 => exact W.out)
   (case s5 => exact cB Y HB)
   (case s6 => exact Z.out)
   rintro e aI ⟨rfl, hb⟩; refine ⟨_, rfl, ?_⟩; replace z := kB z hb; replace HB := hS1 HB E hb
   (try clear hb)
   (try clear aa)
   (try clear hk)
   (try clear hi)
   refine hK.out _ _ (bD3 z) (fun aj => ?_); clear hK K; refine nm_ 6 ?_; refine one_ (i := 5) (N := some 8) (bl 16 63) rfl rfl (one_of ab.out (by kernel_rfl)) (by decide) (fun K hK => ?_); refine gS_ Try.func22 #[.agg #[.slice F A.length G, .slice I B.length J, .slice L D.length M]] ?_
   with_reducible refine (tabardref13_Is.calls k _ _ A _ _ B _ _ D Q _ ?s1 ?s2 ?s3 ?s4 ?s5 ?s6 A5.out).mono ?_
   (case s1 => exact cB R HB)
   (case s2 => exact U.out)
   (case s3 => exact cB V HB)
   (case s4 => exact W.out)
   (case s5 => exact cB Y HB)
   (case s6 => exact Z.out)
   rintro e aJ ⟨rfl, hb⟩; refine ⟨_, rfl, ?_⟩; replace z := kB z hb; replace HB := hS1 HB E hb
   (try clear hb)
   (try clear aa)
   (try clear hk)
   (try clear hi)
   refine hK.out _ _ (bD3 z) (fun aj => ?_); clear hK K; refine nm_ 8 ?_; refine pu_ 6 9 (bl 16 127) ab ?_; refine pu_ 7 10 (bl 16 255) ab ?_; refine pu_ 8 11 (bl 16 511) ab ?_; refine tk3_ 9 12 (bl 16 1023) ab ay aj ?_; refine tk3_ 11 14 (bl 16 3071) ab ay aj ?_; refine one_ (i := 10) (N := some 13) (bl 16 4095) rfl rfl (one_of ab.out (by kernel_rfl)) (by decide) (fun K hK => ?_); refine gS_ Try.func23 #[.agg #[.slice F A.length G, .slice I B.length J, .slice L D.length M]] ?_
   with_reducible refine (canon_Sound.calls k _ _ A _ _ B _ _ D aw _ ?s1 ?s2 ?s3 ?s4 ?s5 ?s6 A7.out).mono ?_
   (case s1 => exact cB R HB)
   (case s2 => exact U.out)
   (case s3 => exact cB V HB)
   (case s4 => exact W.out)
   (case s5 => exact cB Y HB)
   (case s6 => exact Z.out)
   rintro e aK ⟨rfl, hb⟩; refine ⟨_, rfl, ?_⟩; replace z := kB z hb; replace HB := hS1 HB E hb
   (try clear hb)
   (try clear aa)
   (try clear hk)
   (try clear hi)
   refine hK.out _ _ (bD3 z) (fun aj => ?_); clear hK K; refine nm_ 13 ?_; refine one_ (i := 12) (N := some 15) (bl 16 8191) rfl rfl (one_of ab.out (by kernel_rfl)) (by decide) (fun K hK => ?_); refine gS_ Try.func24 #[.agg #[.slice F A.length G, .slice I B.length J, .slice L D.length M]] ?_
   with_reducible refine (tabardref13_Sound.calls k _ _ A _ _ B _ _ D ax _ ?s1 ?s2 ?s3 ?s4 ?s5 ?s6 A8.out).mono ?_
   (case s1 => exact cB R HB)
   (case s2 => exact U.out)
   (case s3 => exact cB V HB)
   (case s4 => exact W.out)
   (case s5 => exact cB Y HB)
   (case s6 => exact Z.out)
   rintro e aL ⟨rfl, hb⟩; refine ⟨_, rfl, ?_⟩; replace z := kB z hb; replace HB := hS1 HB E hb
   (try clear hb)
   (try clear aa)
   (try clear hk)
   (try clear hi)
   refine hK.out _ _ (bD3 z) (fun aj => ?_); clear hK K; refine nm_ 15 ?_; refine pu_ 13 16 (bl 16 16383) ab ?_; refine pu_ 14 17 (bl 16 32767) ab ?_; refine pu_ 15 2 (bl 16 65535) ab ?_; refine done_ (done_of ab.out (by kernel_rfl)) ?_
   try go_wp2
   go_ret
   exact ⟨eW, bS1 HB.out E.out⟩
  ·have ar : (P == Q) = false := by simpa using c6
   (try (have au : decide (P = Q) = false := by simpa using c6))
   (try (have av : (P == Q) = false := by simpa using c6))
   (try (have aF : ¬ (P = Q) := by simpa using c6))
   clear c6; obtain rfl := Option.some.inj H
   go_enter Try.func7, Try.ntmps7
   try go_wp2_with (first | ((with_reducible refine gate_dst (N := 1) rfl ?_); refine be_ (cs := #[.slice F A.length G, .slice I B.length J, .slice L D.length M]) (t := 26) ?_; intro O hg aA aq hb; have z := aM (aq); have ai := gE hg (bP0 HB); have E := gE hg (bP0 HB); replace HB := hS0 HB hb; clear hb aq hg))
   replace z := kD z; replace HB := aM (below_drew1 HB.out); refine start_ (n := 16) (S := fun w' => w'.cell? ⟨O, 0, none⟩ = some (.slice F A.length G) ∧ w'.cell? ⟨O, 1, none⟩ = some (.slice I B.length J) ∧ w'.cell? ⟨O, 2, none⟩ = some (.slice L D.length M)) (ds := []) (bl 16 0) (by kernel_rfl) rfl rfl (bD3 z) (fun aj => ?_); refine with_tabW tabardlaw13_CanonTells.tab1 tabardlaw13_CanonTells.bits1 (fun ab ay => ?_); generalize aA.drew = aN at z HB aj ⊢; refine one_ (i := 0) (N := some 3) (bl 16 1) rfl rfl (one_of ab.out (by kernel_rfl)) (by decide) (fun K hK => ?_); refine gS_ Try.func12 #[] ?_
   with_reducible refine (tabardlaw13_fixed.calls k  true _ A2.out).mono ?_
   rintro e aO ⟨rfl, hb⟩; refine ⟨_, rfl, ?_⟩; replace z := kB z hb; replace HB := hS1 HB E hb
   (try clear hb)
   (try clear aa)
   (try clear hk)
   (try clear hi)
   refine hK.out _ _ (bD3 z) (fun aj => ?_); clear hK K; refine nm_ 3 ?_; refine pu_ 1 4 (bl 16 3) ab ?_; refine tk3_ 2 5 (bl 16 7) ab ay aj ?_; refine tk3_ 4 7 (bl 16 23) ab ay aj ?_; refine one_ (i := 3) (N := some 6) (bl 16 31) rfl rfl (one_of ab.out (by kernel_rfl)) (by decide) (fun K hK => ?_); refine gS_ Try.func21 #[.agg #[.slice F A.length G, .slice I B.length J, .slice L D.length M]] ?_
   with_reducible refine (canon_Is.calls k _ _ A _ _ B _ _ D P _ ?s1 ?s2 ?s3 ?s4 ?s5 ?s6 A4.out).mono ?_
   (case s1 => exact cB R HB)
   (case s2 => exact U.out)
   (case s3 => exact cB V HB)
   (case s4 => exact W.out)
   (case s5 => exact cB Y HB)
   (case s6 => exact Z.out)
   rintro e aP ⟨rfl, hb⟩; refine ⟨_, rfl, ?_⟩; replace z := kB z hb; replace HB := hS1 HB E hb
   (try clear hb)
   (try clear aa)
   (try clear hk)
   (try clear hi)
   refine hK.out _ _ (bD3 z) (fun aj => ?_); clear hK K; refine nm_ 6 ?_; refine one_ (i := 5) (N := some 8) (bl 16 63) rfl rfl (one_of ab.out (by kernel_rfl)) (by decide) (fun K hK => ?_); refine gS_ Try.func22 #[.agg #[.slice F A.length G, .slice I B.length J, .slice L D.length M]] ?_
   with_reducible refine (tabardref13_Is.calls k _ _ A _ _ B _ _ D Q _ ?s1 ?s2 ?s3 ?s4 ?s5 ?s6 A5.out).mono ?_
   (case s1 => exact cB R HB)
   (case s2 => exact U.out)
   (case s3 => exact cB V HB)
   (case s4 => exact W.out)
   (case s5 => exact cB Y HB)
   (case s6 => exact Z.out)
   rintro e aQ ⟨rfl, hb⟩; refine ⟨_, rfl, ?_⟩; replace z := kB z hb; replace HB := hS1 HB E hb
   (try clear hb)
   (try clear aa)
   (try clear hk)
   (try clear hi)
   refine hK.out _ _ (bD3 z) (fun aj => ?_); clear hK K; refine nm_ 8 ?_; refine pu_ 6 9 (bl 16 127) ab ?_; refine pu_ 7 10 (bl 16 255) ab ?_; refine pu_ 8 11 (bl 16 511) ab ?_; refine pn_ 9 12 (bl 16 1023) ab ?_; refine pn_ 10 13 (bl 16 2047) ab ?_; refine pn_ 11 14 (bl 16 4095) ab ?_; refine pn_ 12 15 (bl 16 8191) ab ?_; refine pn_ 13 16 (bl 16 16383) ab ?_; refine pu_ 14 17 (bl 16 32767) ab ?_; refine pu_ 15 2 (bl 16 65535) ab ?_; refine done_ (done_of ab.out (by kernel_rfl)) ?_
   try go_wp2
   go_ret
   exact ⟨eW, bS1 HB.out E.out⟩
 ·replace c3 := Bool.eq_false_iff.mpr c3; subst c3
  rw [if_neg nF] at H; obtain rfl := Option.some.inj H
  go_enter Try.func7, Try.ntmps7
  try go_wp2_with (first | ((with_reducible refine gate_dst (N := 1) rfl ?_); refine be_ (cs := #[.slice F A.length G, .slice I B.length J, .slice L D.length M]) (t := 26) ?_; intro O hg aB aq hb; have z := aM (aq); have ai := gE hg (bP0 HB); have E := gE hg (bP0 HB); replace HB := hS0 HB hb; clear hb aq hg))
  replace z := kD z; replace HB := aM (below_drew1 HB.out); refine start_ (n := 16) (S := fun w' => True) (ds := []) (bl 16 0) (by kernel_rfl) rfl rfl trivial (fun aj => ?_); refine with_tabW tabardlaw13_CanonTells.tab1 tabardlaw13_CanonTells.bits1 (fun ab ay => ?_); generalize aB.drew = aR at z HB aj ⊢; refine one_ (i := 0) (N := some 3) (bl 16 1) rfl rfl (one_of ab.out (by kernel_rfl)) (by decide) (fun K hK => ?_); refine gS_ Try.func12 #[] ?_
  with_reducible refine (tabardlaw13_fixed.calls k  false _ A2.out).mono ?_
  rintro e aS ⟨rfl, hb⟩; refine ⟨_, rfl, ?_⟩; replace z := kB z hb; replace HB := hS1 HB E hb
  (try clear hb)
  (try clear aa)
  (try clear hk)
  (try clear hi)
  refine hK.out _ _ trivial (fun aj => ?_); clear hK K; refine nm_ 3 ?_; refine pu_ 1 4 (bl 16 3) ab ?_; refine pn_ 2 5 (bl 16 7) ab ?_; refine pn_ 3 6 (bl 16 15) ab ?_; refine pn_ 4 7 (bl 16 31) ab ?_; refine pn_ 5 8 (bl 16 63) ab ?_; refine pn_ 6 9 (bl 16 127) ab ?_; refine pu_ 7 10 (bl 16 255) ab ?_; refine pu_ 8 11 (bl 16 511) ab ?_; refine pn_ 9 12 (bl 16 1023) ab ?_; refine pn_ 10 13 (bl 16 2047) ab ?_; refine pn_ 11 14 (bl 16 4095) ab ?_; refine pn_ 12 15 (bl 16 8191) ab ?_; refine pn_ 13 16 (bl 16 16383) ab ?_; refine pu_ 14 17 (bl 16 32767) ab ?_; refine pu_ 15 2 (bl 16 65535) ab ?_; refine done_ (done_of ab.out (by kernel_rfl)) ?_
  try go_wp2
  go_ret
  exact ⟨eW, bS1 HB.out E.out⟩

end Go.Proofs.Ytbpeloobnjbgkaa.X
