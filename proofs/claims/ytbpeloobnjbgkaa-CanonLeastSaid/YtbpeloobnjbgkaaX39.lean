/- What the functions of this seat compute, and that the program's calls come to just that: written by this session's own program out of the translation; no condition. -/
import Derived.Test.YtbpeloobnjbgkaaX0
import Derived.Test.YtbpeloobnjbgkaaX1
import Derived.Test.YtbpeloobnjbgkaaX11
import Derived.Test.YtbpeloobnjbgkaaX16
import Derived.Test.YtbpeloobnjbgkaaX19
import Derived.Test.YtbpeloobnjbgkaaX25
import Derived.Test.YtbpeloobnjbgkaaX38
namespace Go.Proofs.Ytbpeloobnjbgkaa.X
open Go.RowKit Go.Proofs.YtbpeloobnjbgkaaW.PrintWords Go.Proofs.YtbpeloobnjbgkaaW.PrintLast Go.Proofs.YtbpeloobnjbgkaaW.PrintMore
attribute [local go_sem] max2_int min2_int max_two min_two max_three min_three max_four min_four
set_option linter.unusedVariables false
set_option linter.unusedSimpArgs false
set_option maxHeartbeats 8000000
set_option maxRecDepth 100000

/-! ### tabardlaw13_CanonLeast: function 5 -/
mutual
def tabardlaw13_CanonLeast.j0 : Nat → List Int → Int → Bool → List ByteArray → List Bool → List (List Int) → Option (Bool)
 | 0, _, _, _, _, _, _ => none
 | k + 1, x3, x4, x26, x593000, x593001, x593002 => if x26 = true then (if x4 = 0 then (some true) else ((tabardref12_Right.f k x593000 x593001 x593002).bind fun t607 => (some (!t607)))) else (if (x3.length : Int) = (x593001.length : Int) then ((tabardlaw13_apart.f k x593000 x593001 x593002).bind fun t608 => (tabardlaw13_CanonLeast.l0 k x3 t608 (x3.length : Int) 0 x593000 x593001 x593002)) else (some false))
def tabardlaw13_CanonLeast.l0 : Nat → List Int → List (List Bool) → Int → Int → List ByteArray → List Bool → List (List Int) → Option (Bool)
 | 0, _, _, _, _, _, _, _ => none
 | k + 1, x3, x5, x43, x44, x593000, x593001, x593002 => if x44 < x43 then (if 0 ≤ x44 then (if x44 < (x3.length : Int) then (if (rd x3 x44) < 0 then (tabardlaw13_CanonLeast.j2 k x3 x5 x44 x43 x44 true x593000 x593001 x593002) else (tabardlaw13_CanonLeast.j2 k x3 x5 x44 x43 x44 (decide ((rd x3 x44) > x44)) x593000 x593001 x593002)) else (none)) else (none)) else ((tabardref12_CopyDense.f k x593000 x593001 x593002).bind fun bt620 => ((canon_Minimal.f k bt620.1 bt620.2.1 bt620.2.2).bind fun bt629 => (if bt629.2.2.2 = 0 then ((tabardref12_Right.f k bt629.1 bt629.2.1 bt629.2.2.1).bind fun t640 => (tabardlaw13_CanonLeast.j4 k (!t640) bt629.1 bt629.2.1 bt629.2.2.1)) else (tabardlaw13_CanonLeast.j4 k true bt629.1 bt629.2.1 bt629.2.2.1))))
def tabardlaw13_CanonLeast.j2 : Nat → List Int → List (List Bool) → Int → Int → Int → Bool → List ByteArray → List Bool → List (List Int) → Option (Bool)
 | 0, _, _, _, _, _, _, _, _, _ => none
 | k + 1, x3, x5, x6, x43, x44, x59, x593000, x593001, x593002 => if x59 = true then (some false) else (tabardlaw13_CanonLeast.l1 k x3 x5 x6 x43 x44 (x3.length : Int) 0 x593000 x593001 x593002)
def tabardlaw13_CanonLeast.l1 : Nat → List Int → List (List Bool) → Int → Int → Int → Int → Int → List ByteArray → List Bool → List (List Int) → Option (Bool)
 | 0, _, _, _, _, _, _, _, _, _, _ => none
 | k + 1, x3, x5, x6, x43, x44, x61, x62, x593000, x593001, x593002 => if x62 < x61 then (if 0 ≤ x6 then (if x6 < (x3.length : Int) then (if 0 ≤ x62 then (if x62 < (x3.length : Int) then (if x6 < (x5.length : Int) then (if x62 < ((rd_L4 x5 x6).length : Int) then (if (((rd x3 x6) == (rd x3 x62)) == (rdOf false (rd_L4 x5 x6) x62)) = true then (some false) else (tabardlaw13_CanonLeast.l1 k x3 x5 x6 x43 x44 x61 (wrap64 (x62 + 1)) x593000 x593001 x593002)) else (none)) else (none)) else (none)) else (none)) else (none)) else (none)) else (if 0 ≤ x6 then (if x6 < (x3.length : Int) then (if 0 ≤ (rd x3 x6) then (if (rd x3 x6) < (x3.length : Int) then (if (rd x3 (rd x3 x6)) = (rd x3 x6) then (tabardlaw13_CanonLeast.l0 k x3 x5 x43 (wrap64 (x44 + 1)) x593000 x593001 x593002) else (some false)) else (none)) else (none)) else (none)) else (none))
def tabardlaw13_CanonLeast.j4 : Nat → Bool → List ByteArray → List Bool → List (List Int) → Option (Bool)
 | 0, _, _, _, _ => none
 | k + 1, x108, x640000, x640001, x640002 => if x108 = true then (some false) else ((tabardlaw13_apart.f k x640000 x640001 x640002).bind fun t641 => (tabardlaw13_CanonLeast.l2 k t641 (t641.length : Int) 0))
def tabardlaw13_CanonLeast.l2 : Nat → List (List Bool) → Int → Int → Option (Bool)
 | 0, _, _, _ => none
 | k + 1, x5, x112, x113 => if x113 < x112 then (tabardlaw13_CanonLeast.l3 k x5 x113 x112 x113 (x5.length : Int) 0) else (some true)
def tabardlaw13_CanonLeast.l3 : Nat → List (List Bool) → Int → Int → Int → Int → Int → Option (Bool)
 | 0, _, _, _, _, _, _ => none
 | k + 1, x5, x9, x112, x113, x117, x118 => if x118 < x117 then (if 0 ≤ x9 then (if x9 < (x5.length : Int) then (if 0 ≤ x118 then (if x118 < ((rd_L4 x5 x9).length : Int) then (if ((x9 == x118) == (rdOf false (rd_L4 x5 x9) x118)) = true then (some false) else (tabardlaw13_CanonLeast.l3 k x5 x9 x112 x113 x117 (wrap64 (x118 + 1)))) else (none)) else (none)) else (none)) else (none)) else (tabardlaw13_CanonLeast.l2 k x5 x112 (wrap64 (x113 + 1)))
end
def tabardlaw13_CanonLeast.f (k : Nat) (l0_0 : List ByteArray) (l0_1 : List Bool) (l0_2 : List (List Int)) : Option (Bool) := (tabardlaw13_fixed.f k).bind fun t593 => (if t593 = true then ((tabardref12_CopyDense.f k l0_0 l0_1 l0_2).bind fun bt594 => ((canon_Classes.f k bt594.1 bt594.2.1 bt594.2.2).bind fun bt603 => (if bt603.2 = 0 then (tabardlaw13_CanonLeast.j0 k bt603.1 bt603.2 (decide ((l0_1.length : Int) > 40)) l0_0 l0_1 l0_2) else (tabardlaw13_CanonLeast.j0 k bt603.1 bt603.2 true l0_0 l0_1 l0_2)))) else (some false))
theorem tabardlaw13_CanonLeast.mono_l : ∀ k, (∀ z A B D E F, LeO (tabardlaw13_CanonLeast.j0 k z A B D E F) (tabardlaw13_CanonLeast.j0 (k + 1) z A B D E F)) ∧ (∀ z A B D E F G, LeO (tabardlaw13_CanonLeast.l0 k z A B D E F G) (tabardlaw13_CanonLeast.l0 (k + 1) z A B D E F G)) ∧ (∀ z A B D E F G I J, LeO (tabardlaw13_CanonLeast.j2 k z A B D E F G I J) (tabardlaw13_CanonLeast.j2 (k + 1) z A B D E F G I J)) ∧ (∀ z A B D E F G I J L, LeO (tabardlaw13_CanonLeast.l1 k z A B D E F G I J L) (tabardlaw13_CanonLeast.l1 (k + 1) z A B D E F G I J L)) ∧ (∀ z A B D, LeO (tabardlaw13_CanonLeast.j4 k z A B D) (tabardlaw13_CanonLeast.j4 (k + 1) z A B D)) ∧ (∀ z A B, LeO (tabardlaw13_CanonLeast.l2 k z A B) (tabardlaw13_CanonLeast.l2 (k + 1) z A B)) ∧ (∀ z A B D E F, LeO (tabardlaw13_CanonLeast.l3 k z A B D E F) (tabardlaw13_CanonLeast.l3 (k + 1) z A B D E F))
 | 0 => ⟨fun _ _ _ _ _ _ r h => by simp [tabardlaw13_CanonLeast.j0] at h, fun _ _ _ _ _ _ _ r h => by simp [tabardlaw13_CanonLeast.l0] at h, fun _ _ _ _ _ _ _ _ _ r h => by simp [tabardlaw13_CanonLeast.j2] at h, fun _ _ _ _ _ _ _ _ _ _ r h => by simp [tabardlaw13_CanonLeast.l1] at h, fun _ _ _ _ r h => by simp [tabardlaw13_CanonLeast.j4] at h, fun _ _ _ r h => by simp [tabardlaw13_CanonLeast.l2] at h, fun _ _ _ _ _ _ r h => by simp [tabardlaw13_CanonLeast.l3] at h⟩
 | k + 1 => by
  obtain ⟨ih0, ih1, ih2, ih3, ih4, ih5, ih6⟩ := tabardlaw13_CanonLeast.mono_l k; refine ⟨?_, ?_, ?_, ?_, ?_, ?_, ?_⟩
  ·intro z A B D E F
   unfold tabardlaw13_CanonLeast.j0
   repeat' first | (with_reducible first | exact ih0 _ _ _ _ _ _ | exact ih1 _ _ _ _ _ _ _ | exact ih2 _ _ _ _ _ _ _ _ _ | exact ih3 _ _ _ _ _ _ _ _ _ _ | exact ih4 _ _ _ _ | exact ih5 _ _ _ | exact ih6 _ _ _ _ _ _ | exact canon_Classes.mono _ _ _ _ | exact canon_Minimal.mono _ _ _ _ | exact tabardlaw13_apart.mono _ _ _ _ | exact tabardlaw13_fixed.mono _ | exact tabardref12_CopyDense.mono _ _ _ _ | exact tabardref12_Right.mono _ _ _ _ | exact lA | apply lI | refine lB ?_ fun _ => ?_) | exact lN _ | apply lI | refine lB ?_ fun _ => ?_
  ·intro z A B D E F G
   unfold tabardlaw13_CanonLeast.l0
   repeat' first | (with_reducible first | exact ih0 _ _ _ _ _ _ | exact ih1 _ _ _ _ _ _ _ | exact ih2 _ _ _ _ _ _ _ _ _ | exact ih3 _ _ _ _ _ _ _ _ _ _ | exact ih4 _ _ _ _ | exact ih5 _ _ _ | exact ih6 _ _ _ _ _ _ | exact canon_Classes.mono _ _ _ _ | exact canon_Minimal.mono _ _ _ _ | exact tabardlaw13_apart.mono _ _ _ _ | exact tabardlaw13_fixed.mono _ | exact tabardref12_CopyDense.mono _ _ _ _ | exact tabardref12_Right.mono _ _ _ _ | exact lA | apply lI | refine lB ?_ fun _ => ?_) | exact lN _ | apply lI | refine lB ?_ fun _ => ?_
  ·intro z A B D E F G I J
   unfold tabardlaw13_CanonLeast.j2
   repeat' first | (with_reducible first | exact ih0 _ _ _ _ _ _ | exact ih1 _ _ _ _ _ _ _ | exact ih2 _ _ _ _ _ _ _ _ _ | exact ih3 _ _ _ _ _ _ _ _ _ _ | exact ih4 _ _ _ _ | exact ih5 _ _ _ | exact ih6 _ _ _ _ _ _ | exact canon_Classes.mono _ _ _ _ | exact canon_Minimal.mono _ _ _ _ | exact tabardlaw13_apart.mono _ _ _ _ | exact tabardlaw13_fixed.mono _ | exact tabardref12_CopyDense.mono _ _ _ _ | exact tabardref12_Right.mono _ _ _ _ | exact lA | apply lI | refine lB ?_ fun _ => ?_) | exact lN _ | apply lI | refine lB ?_ fun _ => ?_
  ·intro z A B D E F G I J L
   unfold tabardlaw13_CanonLeast.l1
   repeat' first | (with_reducible first | exact ih0 _ _ _ _ _ _ | exact ih1 _ _ _ _ _ _ _ | exact ih2 _ _ _ _ _ _ _ _ _ | exact ih3 _ _ _ _ _ _ _ _ _ _ | exact ih4 _ _ _ _ | exact ih5 _ _ _ | exact ih6 _ _ _ _ _ _ | exact canon_Classes.mono _ _ _ _ | exact canon_Minimal.mono _ _ _ _ | exact tabardlaw13_apart.mono _ _ _ _ | exact tabardlaw13_fixed.mono _ | exact tabardref12_CopyDense.mono _ _ _ _ | exact tabardref12_Right.mono _ _ _ _ | exact lA | apply lI | refine lB ?_ fun _ => ?_) | exact lN _ | apply lI | refine lB ?_ fun _ => ?_
  ·intro z A B D
   unfold tabardlaw13_CanonLeast.j4
   repeat' first | (with_reducible first | exact ih0 _ _ _ _ _ _ | exact ih1 _ _ _ _ _ _ _ | exact ih2 _ _ _ _ _ _ _ _ _ | exact ih3 _ _ _ _ _ _ _ _ _ _ | exact ih4 _ _ _ _ | exact ih5 _ _ _ | exact ih6 _ _ _ _ _ _ | exact canon_Classes.mono _ _ _ _ | exact canon_Minimal.mono _ _ _ _ | exact tabardlaw13_apart.mono _ _ _ _ | exact tabardlaw13_fixed.mono _ | exact tabardref12_CopyDense.mono _ _ _ _ | exact tabardref12_Right.mono _ _ _ _ | exact lA | apply lI | refine lB ?_ fun _ => ?_) | exact lN _ | apply lI | refine lB ?_ fun _ => ?_
  ·intro z A B
   unfold tabardlaw13_CanonLeast.l2
   repeat' first | (with_reducible first | exact ih0 _ _ _ _ _ _ | exact ih1 _ _ _ _ _ _ _ | exact ih2 _ _ _ _ _ _ _ _ _ | exact ih3 _ _ _ _ _ _ _ _ _ _ | exact ih4 _ _ _ _ | exact ih5 _ _ _ | exact ih6 _ _ _ _ _ _ | exact canon_Classes.mono _ _ _ _ | exact canon_Minimal.mono _ _ _ _ | exact tabardlaw13_apart.mono _ _ _ _ | exact tabardlaw13_fixed.mono _ | exact tabardref12_CopyDense.mono _ _ _ _ | exact tabardref12_Right.mono _ _ _ _ | exact lA | apply lI | refine lB ?_ fun _ => ?_) | exact lN _ | apply lI | refine lB ?_ fun _ => ?_
  ·intro z A B D E F
   unfold tabardlaw13_CanonLeast.l3
   repeat' first | (with_reducible first | exact ih0 _ _ _ _ _ _ | exact ih1 _ _ _ _ _ _ _ | exact ih2 _ _ _ _ _ _ _ _ _ | exact ih3 _ _ _ _ _ _ _ _ _ _ | exact ih4 _ _ _ _ | exact ih5 _ _ _ | exact ih6 _ _ _ _ _ _ | exact canon_Classes.mono _ _ _ _ | exact canon_Minimal.mono _ _ _ _ | exact tabardlaw13_apart.mono _ _ _ _ | exact tabardlaw13_fixed.mono _ | exact tabardref12_CopyDense.mono _ _ _ _ | exact tabardref12_Right.mono _ _ _ _ | exact lA | apply lI | refine lB ?_ fun _ => ?_) | exact lN _ | apply lI | refine lB ?_ fun _ => ?_
theorem tabardlaw13_CanonLeast.mono : ∀ a0 a1 a2 k, LeO (tabardlaw13_CanonLeast.f k a0 a1 a2) (tabardlaw13_CanonLeast.f (k + 1) a0 a1 a2) := by
 intro a0 a1 a2 k; obtain ⟨ih0, ih1, ih2, ih3, ih4, ih5, ih6⟩ := tabardlaw13_CanonLeast.mono_l k
 unfold tabardlaw13_CanonLeast.f
 repeat' first | (with_reducible first | exact ih0 _ _ _ _ _ _ | exact ih1 _ _ _ _ _ _ _ | exact ih2 _ _ _ _ _ _ _ _ _ | exact ih3 _ _ _ _ _ _ _ _ _ _ | exact ih4 _ _ _ _ | exact ih5 _ _ _ | exact ih6 _ _ _ _ _ _ | exact canon_Classes.mono _ _ _ _ | exact canon_Minimal.mono _ _ _ _ | exact tabardlaw13_apart.mono _ _ _ _ | exact tabardlaw13_fixed.mono _ | exact tabardref12_CopyDense.mono _ _ _ _ | exact tabardref12_Right.mono _ _ _ _ | exact lA | apply lI | refine lB ?_ fun _ => ?_) | exact lN _ | apply lI | refine lB ?_ fun _ => ?_
theorem tabardlaw13_CanonLeast.calls (k : Nat) (aD : Option Addr) (aE : Nat) (Z : List ByteArray) (aF : Option Addr) (aG : Nat) (U : List Bool) (aH : Option Addr) (aI : Nat) (aa : List (List Int)) (r : Bool) (w : World) (cU : Kd.C Kd.string w aD Z.length Z) (cV : Z.length ≤ aE) (cW : Kd.C Kd.bool w aF U.length U) (cX : U.length ≤ aG) (cY : Kd.C (Kd.slice 3 (Kd.int .i64)) w aH aa.length aa) (cZ : aa.length ≤ aI) (h : tabardlaw13_CanonLeast.f k Z U aa = some r) :
  Calls Try.prog 5 #[.agg #[.slice aD Z.length aE, .slice aF U.length aG, .slice aH aa.length aI]] w fun e w' => e = .returned (.bool r) ∧ Below w.heap.size w w' := by
 have hu26 := Try.underlying26; have av := aM cU; have aw := aM cV; clear cU cV; have ax := aM cW; have ay := aM cX; clear cW cX; have az := aM cY; have aA := aM cZ; clear cY cZ; have HB := aM (Below.refl w.heap.size w); rw [tabardlaw13_CanonLeast.f] at h; have H := h; clear h; apply bSx H; clear H; intro eP A2 H
 by_cases c3 : eP = true
 ·subst c3
  rw [if_pos rfl] at H; replace H := Option.bind_eq_some_iff.mp H; obtain ⟨⟨bf, bg, bh⟩, eC, H⟩ := H; replace H : ((canon_Classes.f k bf bg bh).bind fun bB => (if bB.2 = 0 then (tabardlaw13_CanonLeast.j0 k bB.1 bB.2 (decide ((U.length : Int) > 40)) Z U aa) else (tabardlaw13_CanonLeast.j0 k bB.1 bB.2 true Z U aa))) = some r := H; have A4 := aM eC; clear eC; replace H := Option.bind_eq_some_iff.mp H; obtain ⟨⟨E, aY⟩, eD, H⟩ := H; replace H : (if aY = 0 then (tabardlaw13_CanonLeast.j0 k E aY (decide ((U.length : Int) > 40)) Z U aa) else (tabardlaw13_CanonLeast.j0 k E aY true Z U aa)) = some r := H; have A5 := aM eD; clear eD; have dB := aM H; clear H
  go_enter Try.func5, Try.ntmps5
  go_upto_region 4 with (first | ((with_reducible refine gate_dst (N := 1) rfl ?_); (try (refine gate_guard (by rfl) ?_; dsimp only)); refine be_ (cs := #[.slice aD Z.length aE, .slice aF U.length aG, .slice aH aa.length aI]) (t := 26) ?_; intro aJ hg w7 bQ hb; have z := aM (bQ); have bC := gE hg (bP0 HB); have A := gE hg (bP0 HB); replace HB := hS0 HB hb; clear hb bQ hg) | (go_at_call 12; (with_reducible refine (tabardlaw13_fixed.calls k  true _ A2.out).mono ?_); rintro e w8 ⟨rfl, hb⟩; replace z := kB z hb; replace HB := hS1 HB A hb; (try clear hb); obtain ⟨cr, ct, cu, cv, cw, cx⟩ := bG3 z) | (go_at_call 10; (with_reducible refine (tabardref12_CopyDense.calls k _ _ Z _ _ U _ _ aa bf bg bh _ ?s1 aw.out ?s3 ay.out ?s5 aA.out A4.out).mono ?_); (case s1 => exact cB av HB); (case s3 => exact cB ax HB); (case s5 => exact cB az HB); rintro e eE ⟨dC, dD, dE, rfl, M, ag, am, hb⟩; have an := rW M (bP1 HB A); have ao := rW ag (bP1 HB A); have ap := aM (Kd.S_lower am (below_size (bP1 HB A))); replace z := kB z hb; replace HB := hS1 HB A hb; (try clear hb); (try clear M); (try clear ag); (try clear am); obtain ⟨dF, dG, rfl⟩ := sL an; obtain ⟨dH, dI, rfl⟩ := sL ao; obtain ⟨dJ, dK, bS⟩ := Kd.S_slice ap.out; subst bS) | (go_at_call 11; (with_reducible refine (canon_Classes.calls k _ _ bf _ _ bg _ _ bh E aY _ ?s1 (rR an).2.1 ?s3 (rR ao).2.1 ?s5 ?s6 A5.out).mono ?_); (case s1 => exact cO (rR an).2.2); (case s3 => exact cO (rR ao).2.2); (case s5 => exact cO (Kd.S_reads' ap.out).2.2); (case s6 => exact (Kd.S_reads' ap.out).2.1); rintro e eF ⟨cD, rfl, M, hb⟩; replace an := rB an hb; replace ao := rB ao hb; replace ap := aM (Kd.S_elder' (by (with_reducible repeat (first | apply Kd.S_alloc | apply Kd.S_drewN | apply Kd.S_drew)); exact ap.out) (Kd.R_base M) hb); have bO := rW M (bP1 HB A); replace z := kB z hb; replace HB := hS1 HB A hb; (try clear hb); (try clear M)))
  repeat (go_quiet (first | ((with_reducible refine gate_dst (N := 1) rfl ?_); (try (refine gate_guard (by rfl) ?_; dsimp only)); refine be_ (cs := #[.slice aD Z.length aE, .slice aF U.length aG, .slice aH aa.length aI]) (t := 26) ?_; intro aJ hg w7 bQ hb; have z := aM (bQ); have bC := gE hg (bP0 HB); have A := gE hg (bP0 HB); replace HB := hS0 HB hb; clear hb bQ hg) | (go_at_call 12; (with_reducible refine (tabardlaw13_fixed.calls k  true _ A2.out).mono ?_); rintro e w8 ⟨rfl, hb⟩; replace z := kB z hb; replace HB := hS1 HB A hb; (try clear hb); obtain ⟨cr, ct, cu, cv, cw, cx⟩ := bG3 z) | (go_at_call 10; (with_reducible refine (tabardref12_CopyDense.calls k _ _ Z _ _ U _ _ aa bf bg bh _ ?s1 aw.out ?s3 ay.out ?s5 aA.out A4.out).mono ?_); (case s1 => exact cB av HB); (case s3 => exact cB ax HB); (case s5 => exact cB az HB); rintro e eE ⟨dC, dD, dE, rfl, M, ag, am, hb⟩; have an := rW M (bP1 HB A); have ao := rW ag (bP1 HB A); have ap := aM (Kd.S_lower am (below_size (bP1 HB A))); replace z := kB z hb; replace HB := hS1 HB A hb; (try clear hb); (try clear M); (try clear ag); (try clear am); obtain ⟨dF, dG, rfl⟩ := sL an; obtain ⟨dH, dI, rfl⟩ := sL ao; obtain ⟨dJ, dK, bS⟩ := Kd.S_slice ap.out; subst bS) | (go_at_call 11; (with_reducible refine (canon_Classes.calls k _ _ bf _ _ bg _ _ bh E aY _ ?s1 (rR an).2.1 ?s3 (rR ao).2.1 ?s5 ?s6 A5.out).mono ?_); (case s1 => exact cO (rR an).2.2); (case s3 => exact cO (rR ao).2.2); (case s5 => exact cO (Kd.S_reads' ap.out).2.2); (case s6 => exact (Kd.S_reads' ap.out).2.1); rintro e eF ⟨cD, rfl, M, hb⟩; replace an := rB an hb; replace ao := rB ao hb; replace ap := aM (Kd.S_elder' (by (with_reducible repeat (first | apply Kd.S_alloc | apply Kd.S_drewN | apply Kd.S_drew)); exact ap.out) (Kd.R_base M) hb); have bO := rW M (bP1 HB A); replace z := kB z hb; replace HB := hS1 HB A hb; (try clear hb); (try clear M))); go_upto_region 4 with (first | ((with_reducible refine gate_dst (N := 1) rfl ?_); (try (refine gate_guard (by rfl) ?_; dsimp only)); refine be_ (cs := #[.slice aD Z.length aE, .slice aF U.length aG, .slice aH aa.length aI]) (t := 26) ?_; intro aJ hg w7 bQ hb; have z := aM (bQ); have bC := gE hg (bP0 HB); have A := gE hg (bP0 HB); replace HB := hS0 HB hb; clear hb bQ hg) | (go_at_call 12; (with_reducible refine (tabardlaw13_fixed.calls k  true _ A2.out).mono ?_); rintro e w8 ⟨rfl, hb⟩; replace z := kB z hb; replace HB := hS1 HB A hb; (try clear hb); obtain ⟨cr, ct, cu, cv, cw, cx⟩ := bG3 z) | (go_at_call 10; (with_reducible refine (tabardref12_CopyDense.calls k _ _ Z _ _ U _ _ aa bf bg bh _ ?s1 aw.out ?s3 ay.out ?s5 aA.out A4.out).mono ?_); (case s1 => exact cB av HB); (case s3 => exact cB ax HB); (case s5 => exact cB az HB); rintro e eE ⟨dC, dD, dE, rfl, M, ag, am, hb⟩; have an := rW M (bP1 HB A); have ao := rW ag (bP1 HB A); have ap := aM (Kd.S_lower am (below_size (bP1 HB A))); replace z := kB z hb; replace HB := hS1 HB A hb; (try clear hb); (try clear M); (try clear ag); (try clear am); obtain ⟨dF, dG, rfl⟩ := sL an; obtain ⟨dH, dI, rfl⟩ := sL ao; obtain ⟨dJ, dK, bS⟩ := Kd.S_slice ap.out; subst bS) | (go_at_call 11; (with_reducible refine (canon_Classes.calls k _ _ bf _ _ bg _ _ bh E aY _ ?s1 (rR an).2.1 ?s3 (rR ao).2.1 ?s5 ?s6 A5.out).mono ?_); (case s1 => exact cO (rR an).2.2); (case s3 => exact cO (rR ao).2.2); (case s5 => exact cO (Kd.S_reads' ap.out).2.2); (case s6 => exact (Kd.S_reads' ap.out).2.1); rintro e eF ⟨cD, rfl, M, hb⟩; replace an := rB an hb; replace ao := rB ao hb; replace ap := aM (Kd.S_elder' (by (with_reducible repeat (first | apply Kd.S_alloc | apply Kd.S_drewN | apply Kd.S_drew)); exact ap.out) (Kd.R_base M) hb); have bO := rW M (bP1 HB A); replace z := kB z hb; replace HB := hS1 HB A hb; (try clear hb); (try clear M))))
  (try simp only [Act.put, sA, sB, sC])
  go_cut [26] (fun fK wc => ∃ (kq : Nat) (bP : Bool), fK = .bool bP ∧ Aside0 (tabardlaw13_CanonLeast.j0 kq E aY bP Z U aa = some r) ∧ Aside0 (kq ≤ k) ∧ RA (Kd.int .i64) 3 wc w cD E ∧ Aside0 (wc.heap[aJ]? = some (.cells #[(.slice aD Z.length aE), (.slice aF U.length aG), (.slice aH aa.length aI)] 26 (0, 0))) ∧ BA w wc)
  case first =>
   have H := dB.out; clear dB
   apply iB H <;> clear H <;> intro cy H
   ·obtain ⟨bD, eb⟩ := bq cy; clear cy
    (first | rw [bD] | (simp only [i64_w, i32_w]; rw [bD]) | skip)
    have H' := aM H; clear H; obtain ⟨e1, e2, e3, e4, e5, e6⟩ := bG3 z
    go_wp2
    repeat (go_quiet (fail); try go_wp2)
    go_meet
    case rel => exact ⟨_, (decide ((U.length : Int) > 40)), sI, H', lE, rQ bO, kQ z, bT1 HB A⟩
   ·obtain ⟨bD, eb⟩ := bn cy
    (first | rw [bD] | (simp only [i64_w, i32_w]; rw [bD]) | skip)
    have H' := aM H; clear H
    go_wp2
    repeat (go_quiet (fail); try go_wp2)
    go_meet
    case rel => exact ⟨_, (true), sI, H', lE, rQ bO, kQ z, bT1 HB A⟩
  case rest =>
   clear dB
   obtain ⟨kq, bP, rfl, HA, HJ5, F, z, HB⟩ := hcut; cases kq with
   | zero => exact absurd HA.out (by simp [tabardlaw13_CanonLeast.j0])
   | succ bN =>
    have H := HA.out; clear HA; simp only [tabardlaw13_CanonLeast.j0] at H
    by_cases c0 : bP = true
    ·subst c0
     rw [if_pos rfl] at H
     apply iB H <;> clear H <;> intro cz H
     ·obtain ⟨ec, ed⟩ := bq cz; clear cz; obtain rfl := Option.some.inj H
      go_wp2
      repeat (go_quiet (fail); try go_wp2)
      go_ret
      exact ⟨eW, bS1 HB.out A.out⟩
     ·obtain ⟨ec, ed⟩ := bn cz; apply bSx H; clear H; intro cE dM H; obtain rfl := Option.some.inj H; obtain ⟨e7, e8, e9, fa, fb, fc⟩ := bG3 z
      go_wp2_with (first | (go_at_call 14; (with_reducible refine (tabardref12_Right.calls bN _ _ Z _ _ U _ _ aa cE _ ?s1 aw.out ?s3 ay.out ?s5 aA.out dM.out).mono ?_); (case s1 => exact cB av HB); (case s3 => exact cB ax HB); (case s5 => exact cB az HB); rintro e eG ⟨rfl, hb⟩; replace F := rB F hb; replace z := kB z hb; replace HB := hS1 HB A hb; (try clear hb)))
      repeat (go_quiet (first | (go_at_call 14; (with_reducible refine (tabardref12_Right.calls bN _ _ Z _ _ U _ _ aa cE _ ?s1 aw.out ?s3 ay.out ?s5 aA.out dM.out).mono ?_); (case s1 => exact cB av HB); (case s3 => exact cB ax HB); (case s5 => exact cB az HB); rintro e eG ⟨rfl, hb⟩; replace F := rB F hb; replace z := kB z hb; replace HB := hS1 HB A hb; (try clear hb))); try go_wp2_with (first | (go_at_call 14; (with_reducible refine (tabardref12_Right.calls bN _ _ Z _ _ U _ _ aa cE _ ?s1 aw.out ?s3 ay.out ?s5 aA.out dM.out).mono ?_); (case s1 => exact cB av HB); (case s3 => exact cB ax HB); (case s5 => exact cB az HB); rintro e eG ⟨rfl, hb⟩; replace F := rB F hb; replace z := kB z hb; replace HB := hS1 HB A hb; (try clear hb))))
      go_ret
      exact ⟨eW, bS1 HB.out A.out⟩
    ·replace c0 := Bool.eq_false_iff.mpr c0; subst c0
     rw [if_neg nF] at H
     apply iB H <;> clear H <;> intro bE H
     ·obtain ⟨ee, ef⟩ := bq bE
      have eg : (E.length == U.length) = true := by first | simpa using bE | (simp at bE ⊢; omega)
      clear bE; apply bSx H; clear H; intro aj dO H; have H' := aM H; clear H; obtain ⟨bJ, bK, rfl⟩ := sL F; obtain ⟨fd, fe, ff, fg, fh, fi⟩ := bG3 z
      go_wp2_with (first | (go_at_call 19; (with_reducible refine (tabardlaw13_apart.calls bN _ _ Z _ _ U _ _ aa aj _ ?s1 aw.out ?s3 ay.out ?s5 aA.out dO.out).mono ?_); (case s1 => exact cB av HB); (case s3 => exact cB ax HB); (case s5 => exact cB az HB); rintro e eH ⟨bT, rfl, M, hb⟩; replace F := rB F hb; have ck := aM (Kd.S_lower M (below_size (bP1 HB A))); replace z := kB z hb; replace HB := hS1 HB A hb; (try clear hb); (try clear M)))
      repeat (go_quiet (first | (go_at_call 19; (with_reducible refine (tabardlaw13_apart.calls bN _ _ Z _ _ U _ _ aa aj _ ?s1 aw.out ?s3 ay.out ?s5 aA.out dO.out).mono ?_); (case s1 => exact cB av HB); (case s3 => exact cB ax HB); (case s5 => exact cB az HB); rintro e eH ⟨bT, rfl, M, hb⟩; replace F := rB F hb; have ck := aM (Kd.S_lower M (below_size (bP1 HB A))); replace z := kB z hb; replace HB := hS1 HB A hb; (try clear hb); (try clear M))); try go_wp2_with (first | (go_at_call 19; (with_reducible refine (tabardlaw13_apart.calls bN _ _ Z _ _ U _ _ aa aj _ ?s1 aw.out ?s3 ay.out ?s5 aA.out dO.out).mono ?_); (case s1 => exact cB av HB); (case s3 => exact cB ax HB); (case s5 => exact cB az HB); rintro e eH ⟨bT, rfl, M, hb⟩; replace F := rB F hb; have ck := aM (Kd.S_lower M (below_size (bP1 HB A))); replace z := kB z hb; replace HB := hS1 HB A hb; (try clear hb); (try clear M))))
      let q_1 : World → Prop := fun w' => w'.heap[aJ]? = some (.cells #[(.slice aD Z.length aE), (.slice aF U.length aG), (.slice aH aa.length aI)] 26 (0, 0)); go_loopg [44] bN (fun kq fL w' => ∃ (B : Int), fL = .int .i64 B ∧ Aside0 (tabardlaw13_CanonLeast.l0 kq E aj (E.length : Int) B Z U aa = some r) ∧ Aside0 (kq ≤ bN) ∧ RA (Kd.int .i64) 3 w' w (.slice bJ E.length bK) E ∧ Aside0 (Kd.S (Kd.slice 4 Kd.bool) 23 w' w.heap.size (fun _ => True) bT aj) ∧ Aside0 (q_1 w') ∧ BA w w')
      case atStart => exact ⟨(0), sI, H', ⟨Nat.le_refl _⟩, rQ F, ⟨by (with_reducible repeat (first | apply Kd.S_alloc | apply Kd.S_drewN | apply Kd.S_drew)); exact ck.out⟩, kQ z, bT1 HB A⟩
      case round =>
       clear H'
       obtain ⟨B, rfl, HA, b0, F, I, z, HB⟩ := hrel; cases gk with
       | zero => exact absurd HA.out (by simp [tabardlaw13_CanonLeast.l0])
       | succ k2 =>
        have H := HA.out; clear HA; simp only [tabardlaw13_CanonLeast.l0] at H
        apply iB H <;> clear H <;> intro b9 H
        ·have eh := dT b9; clear b9; have cF := aM H; clear H
         go_upto_region 12 with (fail)
         repeat (go_quiet (fail); go_upto_region 12 with (fail))
         go_cut [59] (fun fM wc => ∃ (kq : Nat) (bF : Bool), fM = .bool bF ∧ Aside0 (tabardlaw13_CanonLeast.j2 kq E aj B (E.length : Int) B bF Z U aa = some r) ∧ Aside0 (kq ≤ k2) ∧ RA (Kd.int .i64) 3 wc w (.slice bJ E.length bK) E ∧ Aside0 (Kd.S (Kd.slice 4 Kd.bool) 23 wc w.heap.size (fun _ => True) bT aj) ∧ Aside0 (wc.heap[aJ]? = some (.cells #[(.slice aD Z.length aE), (.slice aF U.length aG), (.slice aH aa.length aI)] 26 (0, 0))) ∧ BA w wc)
         case first =>
          have H := cF.out; clear cF
          apply iN H; clear H; intro c1 H; have c2 := dT c1; clear c1
          (first | rw [c2] | (simp only [i64_w, i32_w]; rw [c2]) | skip)
          apply iN H; clear H; intro c4 H; have fO := dT c4; clear c4
          apply iB H <;> clear H <;> intro ca H
          ·have ei := dT ca; clear ca; have H' := aM H; clear H; obtain ⟨⟨c5, cG, dr⟩, bi, bj⟩ := xAt (Kd.at_int (rR F).2.2) B; cases cG
           go_wp2
           repeat (go_quiet (fail); try go_wp2)
           go_meet
           case rel => exact ⟨_, (true), sI, H', ⟨by have := HJ5.out; have := b0.out; first | omega | exact Nat.le_refl _⟩, rQ F, ⟨by (with_reducible repeat (first | apply Kd.S_alloc | apply Kd.S_drewN | apply Kd.S_drew)); exact I.out⟩, kQ z, bT1 HB A⟩
          ·have ei := decide_eq_false ca; clear ca; have H' := aM H; clear H; obtain ⟨⟨c5, cG, dr⟩, bi, bj⟩ := xAt (Kd.at_int (rR F).2.2) B; cases cG; obtain ⟨⟨ej, eT, fj⟩, cH, cI⟩ := xAt (Kd.at_int (rR F).2.2) B; obtain rfl := sJJ eT
           go_wp2
           repeat (go_quiet (fail); try go_wp2)
           go_meet
           case rel => exact ⟨_, (decide ((rd E B) > B)), sI, H', ⟨by have := HJ5.out; have := b0.out; first | omega | exact Nat.le_refl _⟩, rQ F, ⟨by (with_reducible repeat (first | apply Kd.S_alloc | apply Kd.S_drewN | apply Kd.S_drew)); exact I.out⟩, kQ z, bT1 HB A⟩
         case rest =>
          clear cF
          obtain ⟨kq, bF, rfl, HA, HJ27, F, I, z, HB⟩ := hcut; cases kq with
          | zero => exact absurd HA.out (by simp [tabardlaw13_CanonLeast.j2])
          | succ dP =>
           have H := HA.out; clear HA; simp only [tabardlaw13_CanonLeast.j2] at H
           by_cases c6 : bF = true
           ·subst c6
            rw [if_pos rfl] at H; obtain rfl := Option.some.inj H
            go_wp2
            repeat (go_quiet (fail); try go_wp2)
            go_ret
            exact ⟨eW, bS1 HB.out A.out⟩
           ·replace c6 := Bool.eq_false_iff.mpr c6; subst c6
            rw [if_neg nF] at H; have H' := aM H; clear H
            go_wp2
            repeat (go_quiet (fail); try go_wp2)
            go_loopg [62] dP (fun kq fN w' => ∃ (L : Int), fN = .int .i64 L ∧ Aside0 (tabardlaw13_CanonLeast.l1 kq E aj B (E.length : Int) B (E.length : Int) L Z U aa = some r) ∧ Aside0 (kq ≤ dP) ∧ RA (Kd.int .i64) 3 w' w (.slice bJ E.length bK) E ∧ Aside0 (Kd.S (Kd.slice 4 Kd.bool) 23 w' w.heap.size (fun _ => True) bT aj) ∧ Aside0 (q_1 w') ∧ BA w w')
            case atStart => exact ⟨(0), sI, H', ⟨Nat.le_refl _⟩, rQ F, ⟨by (with_reducible repeat (first | apply Kd.S_alloc | apply Kd.S_drewN | apply Kd.S_drew)); exact I.out⟩, kQ z, bT1 HB A⟩
            case round =>
             clear H'
             obtain ⟨L, rfl, HA, b4, F, I, z, HB⟩ := hrel; cases gk with
             | zero => exact absurd HA.out (by simp [tabardlaw13_CanonLeast.l1])
             | succ k4 =>
              have H := HA.out; clear HA; simp only [tabardlaw13_CanonLeast.l1] at H
              apply iB H <;> clear H <;> intro cb H
              ·have ek := dT cb; clear cb
               apply iN H; clear H; intro c7 H; have fP := dT c7; clear c7
               apply iN H; clear H; intro c8 H; have fQ := dT c8; clear c8
               apply iN H; clear H; intro c9 H; have fR := dT c9; clear c9
               apply iN H; clear H; intro da H; have fS := dT da; clear da
               apply iN H; clear H; intro db H; have fT := dT db; clear db
               apply iN H; clear H; intro dc H; have fU := dT dc; clear dc
               apply iB H <;> clear H <;> intro a6 H
               ·have el : (((rd E B) == (rd E L)) == (rdOf false (rd_L4 aj B) L)) = true := a6
                (try (have em : decide (((rd E B) == (rd E L)) = (rdOf false (rd_L4 aj B) L)) = true := by simpa using a6))
                (try (have en : (((rd E B) == (rd E L)) == (rdOf false (rd_L4 aj B) L)) = true := by simpa using a6))
                clear a6; obtain rfl := Option.some.inj H; obtain ⟨⟨cl, cJ, ds⟩, bk, bl⟩ := xAt (Kd.at_int (rR F).2.2) B; cases cJ; obtain ⟨⟨cm, cK, dt⟩, bm, bo⟩ := xAt (Kd.at_int (rR F).2.2) L; obtain rfl := sJJ cK; obtain ⟨f9, ga, eU⟩ := Kd.S_slice I.out; subst eU; have aZ : 0 ≤ (B : Int) := oT aO; have a3 : B < (aj.length : Int) := oT aO; obtain ⟨eo, dQ, dR, cL, bL, aS, aT⟩ := at_L4 (Kd.S_reads' I.out).2.2 B aZ a3; cases cL; obtain ⟨ce615, hce615, hMe615, a7⟩ := Kd.S_get I.out [] B aZ (by first | exact a3 | exact oT aO | (have e_ := (Kd.S_reads' I.out).1; omega)); obtain ⟨ve615_0, rfl, ge615_0⟩ := hMe615; have aq := a7 0 _ rfl; rw [Nat.add_zero, show ((Kd.slice 4 Kd.bool)).sz = 1 from rfl, Nat.mul_one] at aq; replace aq := Option.some.inj (aq.symm.trans bL); rw [aq] at ge615_0; have HL615_0 := aM (show Kd.R Kd.bool 4 _ _ _ _ (rd_L4 aj B) from ge615_0); clear aq ge615_0; clear a7 hce615; have aU := aM aT; have du := aM aS; clear aT aS; replace aZ := eq_true aZ; replace a3 := eq_true a3; have bp : 0 ≤ (L : Int) := oT aO; have br : L < ((rd_L4 aj B).length : Int) := oT aO; obtain ⟨ep, cM, dv⟩ := Kd.at_bool (by repeat (first | (with_reducible exact aU.out) | (with_reducible refine Kd.C_alloc ?_ _) | (with_reducible refine Kd.C_drewN ?_ _) | (with_reducible refine Kd.C_drew ?_) | exact aU.out)) L bp br; cases cM; replace bp := eq_true bp; replace br := eq_true br
                go_wp2
                repeat (go_quiet (fail); try go_wp2)
                go_ret
                exact ⟨eW, bS1 HB.out A.out⟩
               ·have el : (((rd E B) == (rd E L)) == (rdOf false (rd_L4 aj B) L)) = false := by simpa using a6
                (try (have em : decide (((rd E B) == (rd E L)) = (rdOf false (rd_L4 aj B) L)) = false := by simpa using a6))
                (try (have en : (((rd E B) == (rd E L)) == (rdOf false (rd_L4 aj B) L)) = false := by simpa using a6))
                (try (have fV : ¬ (((rd E B) == (rd E L)) = (rdOf false (rd_L4 aj B) L)) := by simpa using a6))
                clear a6; have H' := aM H; clear H; obtain ⟨⟨cl, cJ, ds⟩, bk, bl⟩ := xAt (Kd.at_int (rR F).2.2) B; cases cJ; obtain ⟨⟨cm, cK, dt⟩, bm, bo⟩ := xAt (Kd.at_int (rR F).2.2) L; obtain rfl := sJJ cK; obtain ⟨gb, gc, eV⟩ := Kd.S_slice I.out; subst eV; have aZ : 0 ≤ (B : Int) := oT aO; have a3 : B < (aj.length : Int) := oT aO; obtain ⟨eo, dQ, dR, cL, bL, aS, aT⟩ := at_L4 (Kd.S_reads' I.out).2.2 B aZ a3; cases cL; obtain ⟨ce615, hce615, hMe615, a7⟩ := Kd.S_get I.out [] B aZ (by first | exact a3 | exact oT aO | (have e_ := (Kd.S_reads' I.out).1; omega)); obtain ⟨ve615_0, rfl, ge615_0⟩ := hMe615; have aq := a7 0 _ rfl; rw [Nat.add_zero, show ((Kd.slice 4 Kd.bool)).sz = 1 from rfl, Nat.mul_one] at aq; replace aq := Option.some.inj (aq.symm.trans bL); rw [aq] at ge615_0; have HL615_0 := aM (show Kd.R Kd.bool 4 _ _ _ _ (rd_L4 aj B) from ge615_0); clear aq ge615_0; clear a7 hce615; have aU := aM aT; have du := aM aS; clear aT aS; replace aZ := eq_true aZ; replace a3 := eq_true a3; have bp : 0 ≤ (L : Int) := oT aO; have br : L < ((rd_L4 aj B).length : Int) := oT aO; obtain ⟨ep, cM, dv⟩ := Kd.at_bool (by repeat (first | (with_reducible exact aU.out) | (with_reducible refine Kd.C_alloc ?_ _) | (with_reducible refine Kd.C_drewN ?_ _) | (with_reducible refine Kd.C_drew ?_) | exact aU.out)) L bp br; cases cM; replace bp := eq_true bp; replace br := eq_true br
                go_wp2
                repeat (go_quiet (fail); try go_wp2)
                go_roundg k4
                case measure => have := HJ5.out; have := b0.out; have := HJ27.out; have := b4.out; omega
                case rel => exact ⟨(wrap64 (L + 1)), sI, H', ⟨by have := HJ5.out; have := b0.out; have := HJ27.out; have := b4.out; omega⟩, rQ F, ⟨by (with_reducible repeat (first | apply Kd.S_alloc | apply Kd.S_drewN | apply Kd.S_drew)); exact I.out⟩, kQ z, bT1 HB A⟩
              ·have ek := decide_eq_false cb; clear cb
               apply iN H; clear H; intro dd H; have fW := dT dd; clear dd
               apply iN H; clear H; intro de H; have fX := dT de; clear de
               apply iN H; clear H; intro df H; have fY := dT df; clear df
               apply iN H; clear H; intro dg H; have fZ := dT dg; clear dg
               apply iB H <;> clear H <;> intro cA H
               ·obtain ⟨er, es⟩ := bq cA; clear cA; have H' := aM H; clear H; obtain ⟨⟨bG, cN, dw⟩, bs, bt⟩ := xAt (Kd.at_int (rR F).2.2) B; cases cN; obtain ⟨⟨cn, cP, dx⟩, bu, bv⟩ := xAt (Kd.at_int (rR F).2.2) (rd E B); obtain rfl := sJJ cP; obtain ⟨⟨co, cQ, dy⟩, bw, bx⟩ := xAt (Kd.at_int (rR F).2.2) B; obtain rfl := sJJ cQ
                go_wp2
                repeat (go_quiet (fail); try go_wp2)
                go_roundg k4
                case measure => have := HJ5.out; have := b0.out; have := HJ27.out; have := b4.out; omega
                case rel => exact ⟨(wrap64 (B + 1)), sI, H', ⟨by have := HJ5.out; have := b0.out; have := HJ27.out; have := b4.out; omega⟩, rQ F, ⟨by (with_reducible repeat (first | apply Kd.S_alloc | apply Kd.S_drewN | apply Kd.S_drew)); exact I.out⟩, kQ z, bT1 HB A⟩
               ·obtain ⟨er, es⟩ := bn cA; obtain rfl := Option.some.inj H; obtain ⟨⟨bG, cN, dw⟩, bs, bt⟩ := xAt (Kd.at_int (rR F).2.2) B; cases cN; obtain ⟨⟨cn, cP, dx⟩, bu, bv⟩ := xAt (Kd.at_int (rR F).2.2) (rd E B); obtain rfl := sJJ cP; obtain ⟨⟨co, cQ, dy⟩, bw, bx⟩ := xAt (Kd.at_int (rR F).2.2) B; obtain rfl := sJJ cQ
                go_wp2
                repeat (go_quiet (fail); try go_wp2)
                go_ret
                exact ⟨eW, bS1 HB.out A.out⟩
        ·have eh := decide_eq_false b9; clear b9; replace H := Option.bind_eq_some_iff.mp H; obtain ⟨⟨aN, aP, aQ⟩, dS, H⟩ := H; replace H : ((canon_Minimal.f k2 aN aP aQ).bind fun aC => (if aC.2.2.2 = 0 then ((tabardref12_Right.f k2 aC.1 aC.2.1 aC.2.2.1).bind fun a8 => (tabardlaw13_CanonLeast.j4 k2 (!a8) aC.1 aC.2.1 aC.2.2.1)) else (tabardlaw13_CanonLeast.j4 k2 true aC.1 aC.2.1 aC.2.2.1))) = some r := H; have dU := aM dS; clear dS; replace H := Option.bind_eq_some_iff.mp H; obtain ⟨⟨ak, af, al, bU⟩, dV, H⟩ := H; replace H : (if bU = 0 then ((tabardref12_Right.f k2 ak af al).bind fun a8 => (tabardlaw13_CanonLeast.j4 k2 (!a8) ak af al)) else (tabardlaw13_CanonLeast.j4 k2 true ak af al)) = some r := H; have dW := aM dV; clear dV; have cR := aM H; clear H; obtain ⟨fk, fl, fm, fn, fo, fp⟩ := bG3 z
         go_upto_region 24 with (first | (go_at_call 10; (with_reducible refine (tabardref12_CopyDense.calls k2 _ _ Z _ _ U _ _ aa aN aP aQ _ ?s1 aw.out ?s3 ay.out ?s5 aA.out dU.out).mono ?_); (case s1 => exact cB av HB); (case s3 => exact cB ax HB); (case s5 => exact cB az HB); rintro e eI ⟨dX, dY, dZ, rfl, M, ag, am, hb⟩; replace I := aM (Kd.S_elder' (by (with_reducible repeat (first | apply Kd.S_alloc | apply Kd.S_drewN | apply Kd.S_drew)); exact I.out) (Kd.R_base ag) hb); have V := rW M (bP1 HB A); have W := rW ag (bP1 HB A); have Y := aM (Kd.S_lower (Kd.S_new' am (Kd.R_lt (rP F))) (below_size (bP1 HB A))); replace F := rB F hb; replace z := kB z hb; replace HB := hS1 HB A hb; (try clear hb); (try clear M); (try clear ag); (try clear am); obtain ⟨bV, bW, rfl⟩ := sL V; obtain ⟨bY, bZ, rfl⟩ := sL W; obtain ⟨b1, b2, b3⟩ := Kd.S_slice Y.out; subst b3) | (go_at_call 17; (with_reducible refine (canon_Minimal.calls k2 _ _ aN _ _ aP _ _ aQ ak af al bU _ ?s1 (rR V).2.1 ?s3 (rR W).2.1 ?s5 ?s6 dW.out).mono ?_); (case s1 => exact cO (rR V).2.2); (case s3 => exact cO (rR W).2.2); (case s5 => exact cO (Kd.S_reads' Y.out).2.2); (case s6 => exact (Kd.S_reads' Y.out).2.1); rintro e eJ ⟨d0, d1, d2, rfl, M, ag, am, hb⟩; replace I := aM (Kd.S_elder' (by (with_reducible repeat (first | apply Kd.S_alloc | apply Kd.S_drewN | apply Kd.S_drew)); exact I.out) (Kd.R_base ag) hb); have ab := rW (Kd.R_new' M (Kd.R_lt (rP V))) (bP1 HB A); replace V := aM (Kd.R_elder' (rP V) (Kd.R_base M) hb); have ac := rW (Kd.R_new' ag (Kd.R_lt (rP W))) (bP1 HB A); replace W := aM (Kd.R_elder' (rP W) (Kd.R_base ag) hb); have ad := aM (Kd.S_lower (Kd.S_new' (Kd.S_new' am (Kd.R_lt (rP F))) (Kd.S_lt (by (with_reducible repeat (first | apply Kd.S_alloc | apply Kd.S_drewN | apply Kd.S_drew)); exact Y.out))) (below_size (bP1 HB A))); replace F := rB F hb; replace Y := aM (Kd.S_elder' (by (with_reducible repeat (first | apply Kd.S_alloc | apply Kd.S_drewN | apply Kd.S_drew)); exact Y.out) (Kd.S_base am) hb); replace z := kB z hb; replace HB := hS1 HB A hb; (try clear hb); (try clear M); (try clear ag); (try clear am)) | ((with_reducible refine gate_dst (N := 8) rfl ?_); (try (refine gate_guard (by rfl) ?_; dsimp only)); refine be_ (cs := #[.slice none 0 0, .slice none 0 0, .slice none 0 0]) (t := 26) ?_; intro bH hg eK bQ hb; replace F := rB F hb; replace I := aM (Kd.S_below (by (with_reducible repeat (first | apply Kd.S_alloc | apply Kd.S_drewN | apply Kd.S_drew)); exact I.out) hb); replace V := rB V hb; replace W := rB W hb; replace Y := aM (Kd.S_below (by (with_reducible repeat (first | apply Kd.S_alloc | apply Kd.S_drewN | apply Kd.S_drew)); exact Y.out) hb); replace ab := rB ab hb; replace ac := rB ac hb; replace ad := aM (Kd.S_below (by (with_reducible repeat (first | apply Kd.S_alloc | apply Kd.S_drewN | apply Kd.S_drew)); exact ad.out) hb); have D := aM (bQ); have dh := gE hg (bP1 HB A); have ai := gE hg (bP1 HB A); replace HB := hS1 HB A hb; have ah := nL hg z; have au := nG hg z; replace z := kB z hb; clear hb bQ hg; obtain ⟨a9, aK, rfl⟩ := sL ab; have di := au.out; have dj := ah.out; obtain ⟨cc, cd, ce, cf, cg, ch⟩ := bG3 D; obtain ⟨aR, aB, rfl⟩ := sL ac; obtain ⟨ba, aL, b6⟩ := Kd.S_slice ad.out; subst b6))
         repeat (go_quiet (first | (go_at_call 10; (with_reducible refine (tabardref12_CopyDense.calls k2 _ _ Z _ _ U _ _ aa aN aP aQ _ ?s1 aw.out ?s3 ay.out ?s5 aA.out dU.out).mono ?_); (case s1 => exact cB av HB); (case s3 => exact cB ax HB); (case s5 => exact cB az HB); rintro e eI ⟨dX, dY, dZ, rfl, M, ag, am, hb⟩; replace I := aM (Kd.S_elder' (by (with_reducible repeat (first | apply Kd.S_alloc | apply Kd.S_drewN | apply Kd.S_drew)); exact I.out) (Kd.R_base ag) hb); have V := rW M (bP1 HB A); have W := rW ag (bP1 HB A); have Y := aM (Kd.S_lower (Kd.S_new' am (Kd.R_lt (rP F))) (below_size (bP1 HB A))); replace F := rB F hb; replace z := kB z hb; replace HB := hS1 HB A hb; (try clear hb); (try clear M); (try clear ag); (try clear am); obtain ⟨bV, bW, rfl⟩ := sL V; obtain ⟨bY, bZ, rfl⟩ := sL W; obtain ⟨b1, b2, b3⟩ := Kd.S_slice Y.out; subst b3) | (go_at_call 17; (with_reducible refine (canon_Minimal.calls k2 _ _ aN _ _ aP _ _ aQ ak af al bU _ ?s1 (rR V).2.1 ?s3 (rR W).2.1 ?s5 ?s6 dW.out).mono ?_); (case s1 => exact cO (rR V).2.2); (case s3 => exact cO (rR W).2.2); (case s5 => exact cO (Kd.S_reads' Y.out).2.2); (case s6 => exact (Kd.S_reads' Y.out).2.1); rintro e eJ ⟨d0, d1, d2, rfl, M, ag, am, hb⟩; replace I := aM (Kd.S_elder' (by (with_reducible repeat (first | apply Kd.S_alloc | apply Kd.S_drewN | apply Kd.S_drew)); exact I.out) (Kd.R_base ag) hb); have ab := rW (Kd.R_new' M (Kd.R_lt (rP V))) (bP1 HB A); replace V := aM (Kd.R_elder' (rP V) (Kd.R_base M) hb); have ac := rW (Kd.R_new' ag (Kd.R_lt (rP W))) (bP1 HB A); replace W := aM (Kd.R_elder' (rP W) (Kd.R_base ag) hb); have ad := aM (Kd.S_lower (Kd.S_new' (Kd.S_new' am (Kd.R_lt (rP F))) (Kd.S_lt (by (with_reducible repeat (first | apply Kd.S_alloc | apply Kd.S_drewN | apply Kd.S_drew)); exact Y.out))) (below_size (bP1 HB A))); replace F := rB F hb; replace Y := aM (Kd.S_elder' (by (with_reducible repeat (first | apply Kd.S_alloc | apply Kd.S_drewN | apply Kd.S_drew)); exact Y.out) (Kd.S_base am) hb); replace z := kB z hb; replace HB := hS1 HB A hb; (try clear hb); (try clear M); (try clear ag); (try clear am)) | ((with_reducible refine gate_dst (N := 8) rfl ?_); (try (refine gate_guard (by rfl) ?_; dsimp only)); refine be_ (cs := #[.slice none 0 0, .slice none 0 0, .slice none 0 0]) (t := 26) ?_; intro bH hg eK bQ hb; replace F := rB F hb; replace I := aM (Kd.S_below (by (with_reducible repeat (first | apply Kd.S_alloc | apply Kd.S_drewN | apply Kd.S_drew)); exact I.out) hb); replace V := rB V hb; replace W := rB W hb; replace Y := aM (Kd.S_below (by (with_reducible repeat (first | apply Kd.S_alloc | apply Kd.S_drewN | apply Kd.S_drew)); exact Y.out) hb); replace ab := rB ab hb; replace ac := rB ac hb; replace ad := aM (Kd.S_below (by (with_reducible repeat (first | apply Kd.S_alloc | apply Kd.S_drewN | apply Kd.S_drew)); exact ad.out) hb); have D := aM (bQ); have dh := gE hg (bP1 HB A); have ai := gE hg (bP1 HB A); replace HB := hS1 HB A hb; have ah := nL hg z; have au := nG hg z; replace z := kB z hb; clear hb bQ hg; obtain ⟨a9, aK, rfl⟩ := sL ab; have di := au.out; have dj := ah.out; obtain ⟨cc, cd, ce, cf, cg, ch⟩ := bG3 D; obtain ⟨aR, aB, rfl⟩ := sL ac; obtain ⟨ba, aL, b6⟩ := Kd.S_slice ad.out; subst b6)); go_upto_region 24 with (first | (go_at_call 10; (with_reducible refine (tabardref12_CopyDense.calls k2 _ _ Z _ _ U _ _ aa aN aP aQ _ ?s1 aw.out ?s3 ay.out ?s5 aA.out dU.out).mono ?_); (case s1 => exact cB av HB); (case s3 => exact cB ax HB); (case s5 => exact cB az HB); rintro e eI ⟨dX, dY, dZ, rfl, M, ag, am, hb⟩; replace I := aM (Kd.S_elder' (by (with_reducible repeat (first | apply Kd.S_alloc | apply Kd.S_drewN | apply Kd.S_drew)); exact I.out) (Kd.R_base ag) hb); have V := rW M (bP1 HB A); have W := rW ag (bP1 HB A); have Y := aM (Kd.S_lower (Kd.S_new' am (Kd.R_lt (rP F))) (below_size (bP1 HB A))); replace F := rB F hb; replace z := kB z hb; replace HB := hS1 HB A hb; (try clear hb); (try clear M); (try clear ag); (try clear am); obtain ⟨bV, bW, rfl⟩ := sL V; obtain ⟨bY, bZ, rfl⟩ := sL W; obtain ⟨b1, b2, b3⟩ := Kd.S_slice Y.out; subst b3) | (go_at_call 17; (with_reducible refine (canon_Minimal.calls k2 _ _ aN _ _ aP _ _ aQ ak af al bU _ ?s1 (rR V).2.1 ?s3 (rR W).2.1 ?s5 ?s6 dW.out).mono ?_); (case s1 => exact cO (rR V).2.2); (case s3 => exact cO (rR W).2.2); (case s5 => exact cO (Kd.S_reads' Y.out).2.2); (case s6 => exact (Kd.S_reads' Y.out).2.1); rintro e eJ ⟨d0, d1, d2, rfl, M, ag, am, hb⟩; replace I := aM (Kd.S_elder' (by (with_reducible repeat (first | apply Kd.S_alloc | apply Kd.S_drewN | apply Kd.S_drew)); exact I.out) (Kd.R_base ag) hb); have ab := rW (Kd.R_new' M (Kd.R_lt (rP V))) (bP1 HB A); replace V := aM (Kd.R_elder' (rP V) (Kd.R_base M) hb); have ac := rW (Kd.R_new' ag (Kd.R_lt (rP W))) (bP1 HB A); replace W := aM (Kd.R_elder' (rP W) (Kd.R_base ag) hb); have ad := aM (Kd.S_lower (Kd.S_new' (Kd.S_new' am (Kd.R_lt (rP F))) (Kd.S_lt (by (with_reducible repeat (first | apply Kd.S_alloc | apply Kd.S_drewN | apply Kd.S_drew)); exact Y.out))) (below_size (bP1 HB A))); replace F := rB F hb; replace Y := aM (Kd.S_elder' (by (with_reducible repeat (first | apply Kd.S_alloc | apply Kd.S_drewN | apply Kd.S_drew)); exact Y.out) (Kd.S_base am) hb); replace z := kB z hb; replace HB := hS1 HB A hb; (try clear hb); (try clear M); (try clear ag); (try clear am)) | ((with_reducible refine gate_dst (N := 8) rfl ?_); (try (refine gate_guard (by rfl) ?_; dsimp only)); refine be_ (cs := #[.slice none 0 0, .slice none 0 0, .slice none 0 0]) (t := 26) ?_; intro bH hg eK bQ hb; replace F := rB F hb; replace I := aM (Kd.S_below (by (with_reducible repeat (first | apply Kd.S_alloc | apply Kd.S_drewN | apply Kd.S_drew)); exact I.out) hb); replace V := rB V hb; replace W := rB W hb; replace Y := aM (Kd.S_below (by (with_reducible repeat (first | apply Kd.S_alloc | apply Kd.S_drewN | apply Kd.S_drew)); exact Y.out) hb); replace ab := rB ab hb; replace ac := rB ac hb; replace ad := aM (Kd.S_below (by (with_reducible repeat (first | apply Kd.S_alloc | apply Kd.S_drewN | apply Kd.S_drew)); exact ad.out) hb); have D := aM (bQ); have dh := gE hg (bP1 HB A); have ai := gE hg (bP1 HB A); replace HB := hS1 HB A hb; have ah := nL hg z; have au := nG hg z; replace z := kB z hb; clear hb bQ hg; obtain ⟨a9, aK, rfl⟩ := sL ab; have di := au.out; have dj := ah.out; obtain ⟨cc, cd, ce, cf, cg, ch⟩ := bG3 D; obtain ⟨aR, aB, rfl⟩ := sL ac; obtain ⟨ba, aL, b6⟩ := Kd.S_slice ad.out; subst b6)))
         (try simp only [Act.put, sA, sB, sC])
         go_cut [108] (fun eX wc => ∃ (kq : Nat) (bd : Bool), eX = .bool bd ∧ Aside0 (tabardlaw13_CanonLeast.j4 kq bd ak af al = some r) ∧ Aside0 (kq ≤ k2) ∧ RA Kd.string 9 wc w (.slice a9 ak.length aK) ak ∧ RA Kd.bool 4 wc w (.slice aR af.length aB) af ∧ Aside0 (Kd.S (Kd.slice 3 (Kd.int .i64)) 28 wc w.heap.size (fun _ => True) (.slice ba al.length aL) al) ∧ Aside0 (wc.heap[aJ]? = some (.cells #[(.slice aD Z.length aE), (.slice aF U.length aG), (.slice aH aa.length aI)] 26 (0, 0))) ∧ Aside0 (wc.heap[bH]? = some (.cells #[(.slice a9 ak.length aK), (.slice aR af.length aB), (.slice ba al.length aL)] 26 (0, 0))) ∧ BA w wc)
         case first =>
          have H := cR.out; clear cR
          apply iB H <;> clear H <;> intro cC H
          ·obtain ⟨bI, et⟩ := bq cC; clear cC
           (first | rw [bI] | (simp only [i64_w, i32_w]; rw [bI]) | skip)
           apply bSx H; clear H; intro a8 d4 H; have H' := aM H; clear H; have f0 := au.out; have f1 := ah.out; obtain ⟨fq, fr, fs, ft, fu, fv⟩ := bG3 D
           go_wp2_with (first | (go_at_call 14; (with_reducible refine (tabardref12_Right.calls k2 _ _ ak _ _ af _ _ al a8 _ ?s1 (rR ab).2.1 ?s3 (rR ac).2.1 ?s5 ?s6 d4.out).mono ?_); (case s1 => refine (Kd.R_reads' (e := 9) (base := w.heap.size) (ok := fun k_ => (True ∧ some k_ ≠ (.slice bV aN.length bW : Value).ownBlock)) (n := ak.length) (c := aK) ?_).2.2; exact (rY ab D)); (case s3 => refine (Kd.R_reads' (e := 4) (base := w.heap.size) (ok := fun k_ => (True ∧ some k_ ≠ (.slice bY aP.length bZ : Value).ownBlock)) (n := af.length) (c := aB) ?_).2.2; exact (rY ac D)); (case s5 => refine (Kd.S_reads' (e := 28) (base := w.heap.size) (ok := fun k_ => ((True ∧ some k_ ≠ (.slice bJ E.length bK : Value).ownBlock) ∧ some k_ ≠ (.slice b1 aQ.length b2 : Value).ownBlock)) (n := al.length) (c := aL) ?_).2.2; exact (sY ad D)); (case s6 => exact (Kd.S_reads' ad.out).2.1); rintro e eL ⟨rfl, hb⟩; replace F := rX F D hb; replace I := sX I D hb; replace V := rX V D hb; replace W := rX W D hb; replace Y := sX Y D hb; replace ab := rX ab D hb; replace ac := rX ac D hb; replace ad := sX ad D hb; replace z := kX1 z ah hb; replace D := kP3 D hb; replace HB := hS2 HB A ai hb; (try clear hb)))
           repeat (go_quiet (first | (go_at_call 14; (with_reducible refine (tabardref12_Right.calls k2 _ _ ak _ _ af _ _ al a8 _ ?s1 (rR ab).2.1 ?s3 (rR ac).2.1 ?s5 ?s6 d4.out).mono ?_); (case s1 => refine (Kd.R_reads' (e := 9) (base := w.heap.size) (ok := fun k_ => (True ∧ some k_ ≠ (.slice bV aN.length bW : Value).ownBlock)) (n := ak.length) (c := aK) ?_).2.2; exact (rY ab D)); (case s3 => refine (Kd.R_reads' (e := 4) (base := w.heap.size) (ok := fun k_ => (True ∧ some k_ ≠ (.slice bY aP.length bZ : Value).ownBlock)) (n := af.length) (c := aB) ?_).2.2; exact (rY ac D)); (case s5 => refine (Kd.S_reads' (e := 28) (base := w.heap.size) (ok := fun k_ => ((True ∧ some k_ ≠ (.slice bJ E.length bK : Value).ownBlock) ∧ some k_ ≠ (.slice b1 aQ.length b2 : Value).ownBlock)) (n := al.length) (c := aL) ?_).2.2; exact (sY ad D)); (case s6 => exact (Kd.S_reads' ad.out).2.1); rintro e eL ⟨rfl, hb⟩; replace F := rX F D hb; replace I := sX I D hb; replace V := rX V D hb; replace W := rX W D hb; replace Y := sX Y D hb; replace ab := rX ab D hb; replace ac := rX ac D hb; replace ad := sX ad D hb; replace z := kX1 z ah hb; replace D := kP3 D hb; replace HB := hS2 HB A ai hb; (try clear hb))); try go_wp2_with (first | (go_at_call 14; (with_reducible refine (tabardref12_Right.calls k2 _ _ ak _ _ af _ _ al a8 _ ?s1 (rR ab).2.1 ?s3 (rR ac).2.1 ?s5 ?s6 d4.out).mono ?_); (case s1 => refine (Kd.R_reads' (e := 9) (base := w.heap.size) (ok := fun k_ => (True ∧ some k_ ≠ (.slice bV aN.length bW : Value).ownBlock)) (n := ak.length) (c := aK) ?_).2.2; exact (rY ab D)); (case s3 => refine (Kd.R_reads' (e := 4) (base := w.heap.size) (ok := fun k_ => (True ∧ some k_ ≠ (.slice bY aP.length bZ : Value).ownBlock)) (n := af.length) (c := aB) ?_).2.2; exact (rY ac D)); (case s5 => refine (Kd.S_reads' (e := 28) (base := w.heap.size) (ok := fun k_ => ((True ∧ some k_ ≠ (.slice bJ E.length bK : Value).ownBlock) ∧ some k_ ≠ (.slice b1 aQ.length b2 : Value).ownBlock)) (n := al.length) (c := aL) ?_).2.2; exact (sY ad D)); (case s6 => exact (Kd.S_reads' ad.out).2.1); rintro e eL ⟨rfl, hb⟩; replace F := rX F D hb; replace I := sX I D hb; replace V := rX V D hb; replace W := rX W D hb; replace Y := sX Y D hb; replace ab := rX ab D hb; replace ac := rX ac D hb; replace ad := sX ad D hb; replace z := kX1 z ah hb; replace D := kP3 D hb; replace HB := hS2 HB A ai hb; (try clear hb))))
           go_meet
           case rel => exact ⟨_, (!a8), sI, H', ⟨by have := HJ5.out; have := b0.out; first | omega | exact Nat.le_refl _⟩, ⟨rM ab (fun _ hk => trivial)⟩, ⟨rM ac (fun _ hk => trivial)⟩, ⟨by (with_reducible repeat (first | apply Kd.S_alloc | apply Kd.S_drewN | apply Kd.S_drew)); exact Kd.S_mono ad.out (fun _ hk => trivial)⟩, kQ z, kQ D, bT2 HB A ai⟩
          ·obtain ⟨bI, et⟩ := bn cC
           (first | rw [bI] | (simp only [i64_w, i32_w]; rw [bI]) | skip)
           have H' := aM H; clear H
           go_wp2
           repeat (go_quiet (fail); try go_wp2)
           go_meet
           case rel => exact ⟨_, (true), sI, H', ⟨by have := HJ5.out; have := b0.out; first | omega | exact Nat.le_refl _⟩, ⟨rZ ab D⟩, ⟨rZ ac D⟩, ⟨sZ ad D⟩, ⟨kN z ah⟩, ⟨by (with_reducible repeat (first | refine blk_drewN ?_ _ | refine blk_drew ?_ | refine blk_alloc ?_ _)); exact blk_put (blk_put (blk_put D.out 0 _ rfl) 1 _ rfl) 2 _ rfl⟩, bT2 HB A ai⟩
         case rest =>
          clear cR
          obtain ⟨kq, bd, rfl, HA, HJ49, P, J, Q, z, D, HB⟩ := hcut; cases kq with
          | zero => exact absurd HA.out (by simp [tabardlaw13_CanonLeast.j4])
          | succ b7 =>
           have H := HA.out; clear HA; simp only [tabardlaw13_CanonLeast.j4] at H
           by_cases dk : bd = true
           ·subst dk
            rw [if_pos rfl] at H; obtain rfl := Option.some.inj H
            go_wp2
            repeat (go_quiet (fail); try go_wp2)
            go_ret
            exact ⟨eW, bS2 HB.out A.out ai.out⟩
           ·replace dk := Bool.eq_false_iff.mpr dk; subst dk
            rw [if_neg nF] at H; apply bSx H; clear H; intro ae d6 H; have H' := aM H; clear H; have f2 := au.out; have f3 := ah.out; obtain ⟨fw, fx, fy, fz, fA, fB⟩ := bG3 D
            go_wp2_with (first | (go_at_call 19; (with_reducible refine (tabardlaw13_apart.calls b7 _ _ ak _ _ af _ _ al ae _ ?s1 (rR P).2.1 ?s3 (rR J).2.1 ?s5 ?s6 d6.out).mono ?_); (case s1 => exact cO (rR P).2.2); (case s3 => exact cO (rR J).2.2); (case s5 => exact cO (Kd.S_reads' Q.out).2.2); (case s6 => exact (Kd.S_reads' Q.out).2.1); rintro e eM ⟨d7, rfl, M, hb⟩; replace P := rB P hb; replace Q := aM (Kd.S_below (by (with_reducible repeat (first | apply Kd.S_alloc | apply Kd.S_drewN | apply Kd.S_drew)); exact Q.out) hb); have be := aM (Kd.S_lower (Kd.S_new' M (Kd.R_lt (rP J))) (below_size (bP2 HB A ai))); replace J := rB J hb; replace z := kB z hb; replace D := kB D hb; replace HB := hS2 HB A ai hb; (try clear hb); (try clear M); obtain ⟨cp, cq, b8⟩ := Kd.S_slice be.out; subst b8))
            repeat (go_quiet (first | (go_at_call 19; (with_reducible refine (tabardlaw13_apart.calls b7 _ _ ak _ _ af _ _ al ae _ ?s1 (rR P).2.1 ?s3 (rR J).2.1 ?s5 ?s6 d6.out).mono ?_); (case s1 => exact cO (rR P).2.2); (case s3 => exact cO (rR J).2.2); (case s5 => exact cO (Kd.S_reads' Q.out).2.2); (case s6 => exact (Kd.S_reads' Q.out).2.1); rintro e eM ⟨d7, rfl, M, hb⟩; replace P := rB P hb; replace Q := aM (Kd.S_below (by (with_reducible repeat (first | apply Kd.S_alloc | apply Kd.S_drewN | apply Kd.S_drew)); exact Q.out) hb); have be := aM (Kd.S_lower (Kd.S_new' M (Kd.R_lt (rP J))) (below_size (bP2 HB A ai))); replace J := rB J hb; replace z := kB z hb; replace D := kB D hb; replace HB := hS2 HB A ai hb; (try clear hb); (try clear M); obtain ⟨cp, cq, b8⟩ := Kd.S_slice be.out; subst b8)); try go_wp2_with (first | (go_at_call 19; (with_reducible refine (tabardlaw13_apart.calls b7 _ _ ak _ _ af _ _ al ae _ ?s1 (rR P).2.1 ?s3 (rR J).2.1 ?s5 ?s6 d6.out).mono ?_); (case s1 => exact cO (rR P).2.2); (case s3 => exact cO (rR J).2.2); (case s5 => exact cO (Kd.S_reads' Q.out).2.2); (case s6 => exact (Kd.S_reads' Q.out).2.1); rintro e eM ⟨d7, rfl, M, hb⟩; replace P := rB P hb; replace Q := aM (Kd.S_below (by (with_reducible repeat (first | apply Kd.S_alloc | apply Kd.S_drewN | apply Kd.S_drew)); exact Q.out) hb); have be := aM (Kd.S_lower (Kd.S_new' M (Kd.R_lt (rP J))) (below_size (bP2 HB A ai))); replace J := rB J hb; replace z := kB z hb; replace D := kB D hb; replace HB := hS2 HB A ai hb; (try clear hb); (try clear M); obtain ⟨cp, cq, b8⟩ := Kd.S_slice be.out; subst b8)))
            go_loopg [113] b7 (fun kq eY w' => ∃ (G : Int), eY = .int .i64 G ∧ Aside0 (tabardlaw13_CanonLeast.l2 kq ae (ae.length : Int) G = some r) ∧ Aside0 (kq ≤ b7) ∧ Aside0 (Kd.S (Kd.slice 4 Kd.bool) 23 w' w.heap.size (fun k_ => some k_ ≠ ((.slice aR af.length aB) : Value).ownBlock) (.slice cp ae.length cq) ae) ∧ RA Kd.string 9 w' w (.slice a9 ak.length aK) ak ∧ RA Kd.bool 4 w' w (.slice aR af.length aB) af ∧ Aside0 (Kd.S (Kd.slice 3 (Kd.int .i64)) 28 w' w.heap.size (fun _ => True) (.slice ba al.length aL) al) ∧ Aside0 (q_1 w') ∧ Aside0 (w'.heap[bH]? = some (.cells #[(.slice a9 ak.length aK), (.slice aR af.length aB), (.slice ba al.length aL)] 26 (0, 0))) ∧ BA w w')
            case atStart => exact ⟨(0), sI, H', ⟨Nat.le_refl _⟩, ⟨by (with_reducible repeat (first | apply Kd.S_alloc | apply Kd.S_drewN | apply Kd.S_drew)); exact Kd.S_mono be.out (fun _ hk => hk.2)⟩, rQ P, rQ J, ⟨by (with_reducible repeat (first | apply Kd.S_alloc | apply Kd.S_drewN | apply Kd.S_drew)); exact Q.out⟩, kQ z, kQ D, bT2 HB A ai⟩
            case round =>
             clear H'
             obtain ⟨G, rfl, HA, b4, I, P, J, Q, z, D, HB⟩ := hrel; cases gk with
             | zero => exact absurd HA.out (by simp [tabardlaw13_CanonLeast.l2])
             | succ k4 =>
              have H := HA.out; clear HA; simp only [tabardlaw13_CanonLeast.l2] at H
              apply iB H <;> clear H <;> intro ci H
              ·have eu := dT ci; clear ci; have H' := aM H; clear H
               go_wp2
               repeat (go_quiet (fail); try go_wp2)
               go_loopg [118] k4 (fun kq eZ w' => ∃ (O : Int), eZ = .int .i64 O ∧ Aside0 (tabardlaw13_CanonLeast.l3 kq ae G (ae.length : Int) G (ae.length : Int) O = some r) ∧ Aside0 (kq ≤ k4) ∧ Aside0 (Kd.S (Kd.slice 4 Kd.bool) 23 w' w.heap.size (fun k_ => some k_ ≠ ((.slice aR af.length aB) : Value).ownBlock) (.slice cp ae.length cq) ae) ∧ RA Kd.string 9 w' w (.slice a9 ak.length aK) ak ∧ RA Kd.bool 4 w' w (.slice aR af.length aB) af ∧ Aside0 (Kd.S (Kd.slice 3 (Kd.int .i64)) 28 w' w.heap.size (fun _ => True) (.slice ba al.length aL) al) ∧ Aside0 (q_1 w') ∧ Aside0 (w'.heap[bH]? = some (.cells #[(.slice a9 ak.length aK), (.slice aR af.length aB), (.slice ba al.length aL)] 26 (0, 0))) ∧ BA w w')
               case atStart => exact ⟨(0), sI, H', ⟨Nat.le_refl _⟩, ⟨by (with_reducible repeat (first | apply Kd.S_alloc | apply Kd.S_drewN | apply Kd.S_drew)); exact I.out⟩, rQ P, rQ J, ⟨by (with_reducible repeat (first | apply Kd.S_alloc | apply Kd.S_drewN | apply Kd.S_drew)); exact Q.out⟩, kQ z, kQ D, bT2 HB A ai⟩
               case round =>
                clear H'
                obtain ⟨O, rfl, HA, HK5, I, P, J, Q, z, D, HB⟩ := hrel; cases gk with
                | zero => exact absurd HA.out (by simp [tabardlaw13_CanonLeast.l3])
                | succ k5 =>
                 have H := HA.out; clear HA; simp only [tabardlaw13_CanonLeast.l3] at H
                 apply iB H <;> clear H <;> intro cj H
                 ·have ev := dT cj; clear cj
                  apply iN H; clear H; intro dl H; have f4 := dT dl; clear dl
                  apply iN H; clear H; intro dm H; have f5 := dT dm; clear dm
                  apply iN H; clear H; intro dn H; have f6 := dT dn; clear dn
                  apply iN H; clear H; intro dp H; have f7 := dT dp; clear dp
                  apply iB H <;> clear H <;> intro bb H
                  ·have ew : ((G == O) == (rdOf false (rd_L4 ae G) O)) = true := bb
                   (try (have ex : decide ((G == O) = (rdOf false (rd_L4 ae G) O)) = true := by simpa using bb))
                   (try (have ey : ((G == O) == (rdOf false (rd_L4 ae G) O)) = true := by simpa using bb))
                   clear bb; obtain rfl := Option.some.inj H; have a4 : 0 ≤ (G : Int) := oT aO; have a5 : G < (ae.length : Int) := oT aO; obtain ⟨ez, d8, d9, cS, bM, aV, aW⟩ := at_L4 (Kd.S_reads' I.out).2.2 G a4 a5; cases cS; obtain ⟨ce644, hce644, hMe644, bc⟩ := Kd.S_get I.out [] G a4 (by first | exact a5 | exact oT aO | (have e_ := (Kd.S_reads' I.out).1; omega)); obtain ⟨ve644_0, rfl, ge644_0⟩ := hMe644; have ar := bc 0 _ rfl; rw [Nat.add_zero, show ((Kd.slice 4 Kd.bool)).sz = 1 from rfl, Nat.mul_one] at ar; replace ar := Option.some.inj (ar.symm.trans bM); rw [ar] at ge644_0; have HL644_0 := aM (show Kd.R Kd.bool 4 _ _ _ _ (rd_L4 ae G) from ge644_0); clear ar ge644_0; clear bc hce644; have aX := aM aW; have dz := aM aV; clear aW aV; replace a4 := eq_true a4; replace a5 := eq_true a5; have bz : 0 ≤ (O : Int) := oT aO; have bA : O < ((rd_L4 ae G).length : Int) := oT aO; obtain ⟨eA, cT, dA⟩ := Kd.at_bool (by repeat (first | (with_reducible exact aX.out) | (with_reducible refine Kd.C_alloc ?_ _) | (with_reducible refine Kd.C_drewN ?_ _) | (with_reducible refine Kd.C_drew ?_) | exact aX.out)) O bz bA; cases cT; replace bz := eq_true bz; replace bA := eq_true bA
                   go_wp2
                   repeat (go_quiet (fail); try go_wp2)
                   go_ret
                   exact ⟨eW, bS2 HB.out A.out ai.out⟩
                  ·have ew : ((G == O) == (rdOf false (rd_L4 ae G) O)) = false := by simpa using bb
                   (try (have ex : decide ((G == O) = (rdOf false (rd_L4 ae G) O)) = false := by simpa using bb))
                   (try (have ey : ((G == O) == (rdOf false (rd_L4 ae G) O)) = false := by simpa using bb))
                   (try (have f8 : ¬ ((G == O) = (rdOf false (rd_L4 ae G) O)) := by simpa using bb))
                   clear bb; have H' := aM H; clear H; have a4 : 0 ≤ (G : Int) := oT aO; have a5 : G < (ae.length : Int) := oT aO; obtain ⟨ez, d8, d9, cS, bM, aV, aW⟩ := at_L4 (Kd.S_reads' I.out).2.2 G a4 a5; cases cS; obtain ⟨ce644, hce644, hMe644, bc⟩ := Kd.S_get I.out [] G a4 (by first | exact a5 | exact oT aO | (have e_ := (Kd.S_reads' I.out).1; omega)); obtain ⟨ve644_0, rfl, ge644_0⟩ := hMe644; have ar := bc 0 _ rfl; rw [Nat.add_zero, show ((Kd.slice 4 Kd.bool)).sz = 1 from rfl, Nat.mul_one] at ar; replace ar := Option.some.inj (ar.symm.trans bM); rw [ar] at ge644_0; have HL644_0 := aM (show Kd.R Kd.bool 4 _ _ _ _ (rd_L4 ae G) from ge644_0); clear ar ge644_0; clear bc hce644; have aX := aM aW; have dz := aM aV; clear aW aV; replace a4 := eq_true a4; replace a5 := eq_true a5; have bz : 0 ≤ (O : Int) := oT aO; have bA : O < ((rd_L4 ae G).length : Int) := oT aO; obtain ⟨eA, cT, dA⟩ := Kd.at_bool (by repeat (first | (with_reducible exact aX.out) | (with_reducible refine Kd.C_alloc ?_ _) | (with_reducible refine Kd.C_drewN ?_ _) | (with_reducible refine Kd.C_drew ?_) | exact aX.out)) O bz bA; cases cT; replace bz := eq_true bz; replace bA := eq_true bA
                   go_wp2
                   repeat (go_quiet (fail); try go_wp2)
                   go_roundg k5
                   case measure => have := HJ5.out; have := b0.out; have := HJ49.out; have := b4.out; have := HK5.out; omega
                   case rel => exact ⟨(wrap64 (O + 1)), sI, H', ⟨by have := HJ5.out; have := b0.out; have := HJ49.out; have := b4.out; have := HK5.out; omega⟩, ⟨by (with_reducible repeat (first | apply Kd.S_alloc | apply Kd.S_drewN | apply Kd.S_drew)); exact I.out⟩, rQ P, rQ J, ⟨by (with_reducible repeat (first | apply Kd.S_alloc | apply Kd.S_drewN | apply Kd.S_drew)); exact Q.out⟩, kQ z, kQ D, bT2 HB A ai⟩
                 ·have ev := decide_eq_false cj; clear cj; have H' := aM H; clear H
                  go_wp2
                  repeat (go_quiet (fail); try go_wp2)
                  go_roundg k5
                  case measure => have := HJ5.out; have := b0.out; have := HJ49.out; have := b4.out; have := HK5.out; omega
                  case rel => exact ⟨(wrap64 (G + 1)), sI, H', ⟨by have := HJ5.out; have := b0.out; have := HJ49.out; have := b4.out; have := HK5.out; omega⟩, ⟨by (with_reducible repeat (first | apply Kd.S_alloc | apply Kd.S_drewN | apply Kd.S_drew)); exact I.out⟩, rQ P, rQ J, ⟨by (with_reducible repeat (first | apply Kd.S_alloc | apply Kd.S_drewN | apply Kd.S_drew)); exact Q.out⟩, kQ z, kQ D, bT2 HB A ai⟩
              ·have eu := decide_eq_false ci; clear ci; obtain rfl := Option.some.inj H
               go_wp2
               repeat (go_quiet (fail); try go_wp2)
               go_ret
               exact ⟨eW, bS2 HB.out A.out ai.out⟩
     ·obtain ⟨ee, ef⟩ := bn bE
      have eg : (E.length == U.length) = false := by first | simpa using bE | (simp at bE ⊢; omega)
      obtain rfl := Option.some.inj H; obtain ⟨gd, ge, rfl⟩ := sL F; obtain ⟨fC, fD, fE, fF, fG, fH⟩ := bG3 z
      go_wp2
      repeat (go_quiet (fail); try go_wp2)
      go_ret
      exact ⟨eW, bS1 HB.out A.out⟩
 ·replace c3 := Bool.eq_false_iff.mpr c3; subst c3
  rw [if_neg nF] at H; obtain rfl := Option.some.inj H
  go_enter Try.func5, Try.ntmps5
  go_wp2_with (first | ((with_reducible refine gate_dst (N := 1) rfl ?_); (try (refine gate_guard (by rfl) ?_; dsimp only)); refine be_ (cs := #[.slice aD Z.length aE, .slice aF U.length aG, .slice aH aa.length aI]) (t := 26) ?_; intro aJ hg eN bQ hb; have z := aM (bQ); have bC := gE hg (bP0 HB); have A := gE hg (bP0 HB); replace HB := hS0 HB hb; clear hb bQ hg) | (go_at_call 12; (with_reducible refine (tabardlaw13_fixed.calls k  false _ A2.out).mono ?_); rintro e eO ⟨rfl, hb⟩; replace z := kB z hb; replace HB := hS1 HB A hb; (try clear hb)))
  repeat (go_quiet (first | ((with_reducible refine gate_dst (N := 1) rfl ?_); (try (refine gate_guard (by rfl) ?_; dsimp only)); refine be_ (cs := #[.slice aD Z.length aE, .slice aF U.length aG, .slice aH aa.length aI]) (t := 26) ?_; intro aJ hg eN bQ hb; have z := aM (bQ); have bC := gE hg (bP0 HB); have A := gE hg (bP0 HB); replace HB := hS0 HB hb; clear hb bQ hg) | (go_at_call 12; (with_reducible refine (tabardlaw13_fixed.calls k  false _ A2.out).mono ?_); rintro e eO ⟨rfl, hb⟩; replace z := kB z hb; replace HB := hS1 HB A hb; (try clear hb))); try go_wp2_with (first | ((with_reducible refine gate_dst (N := 1) rfl ?_); (try (refine gate_guard (by rfl) ?_; dsimp only)); refine be_ (cs := #[.slice aD Z.length aE, .slice aF U.length aG, .slice aH aa.length aI]) (t := 26) ?_; intro aJ hg eN bQ hb; have z := aM (bQ); have bC := gE hg (bP0 HB); have A := gE hg (bP0 HB); replace HB := hS0 HB hb; clear hb bQ hg) | (go_at_call 12; (with_reducible refine (tabardlaw13_fixed.calls k  false _ A2.out).mono ?_); rintro e eO ⟨rfl, hb⟩; replace z := kB z hb; replace HB := hS1 HB A hb; (try clear hb))))
  go_ret
  exact ⟨eW, bS1 HB.out A.out⟩

end Go.Proofs.Ytbpeloobnjbgkaa.X
