/- What the functions of this seat compute, and that the program's calls come to just that: written by this session's own program out of the translation; no condition. -/
import Derived.Test.YthgoonohpfoagaaX0
import Derived.Test.YthgoonohpfoagaaX30
import Derived.Test.YthgoonohpfoagaaX41
namespace Go.Proofs.Ythgoonohpfoagaa.X
open Go.RowKit Go.Proofs.YthgoonohpfoagaaW.PrintWords Go.Proofs.YthgoonohpfoagaaW.PrintLast Go.Proofs.YthgoonohpfoagaaW.PrintMore
attribute [local go_sem] max2_int min2_int max_two min_two max_three min_three max_four min_four
set_option linter.unusedVariables false
set_option linter.unusedSimpArgs false
set_option maxHeartbeats 8000000
set_option maxRecDepth 100000

/-! ### truth_of: function 40 -/
def truth_of.f (k : Nat) (a0 : Int) : Option (Bool × List Int) := if a0 < 0 then ((truth_made.f k true (([(IntKind.u64.wrap (-(IntKind.u64.wrap (a0)))) % 4294967296, ((IntKind.u64.wrap (-(IntKind.u64.wrap (a0)))) / 4294967296) % 4294967296] : List Int))).bind fun bt386 => (some (bt386.1, bt386.2))) else ((truth_made.f k false (([(IntKind.u64.wrap (a0)) % 4294967296, ((IntKind.u64.wrap (a0)) / 4294967296) % 4294967296] : List Int))).bind fun bt393 => (some (bt393.1, bt393.2)))
theorem truth_of.mono : ∀ a0 k, LeO (truth_of.f k a0) (truth_of.f (k + 1) a0) := by
 intro a0 k
 unfold truth_of.f
 repeat' first | (with_reducible first | exact truth_made.mono _ _ _ | exact lA | apply lI | refine lB ?_ fun _ => ?_) | exact lN _ | apply lI | refine lB ?_ fun _ => ?_
theorem truth_of.calls (k : Nat) (D : Int) (r1 : Bool) (r2 : List Int) (w : World) (h : truth_of.f k D = some (r1, r2)) :
  Calls Try.prog 40 #[.int .i64 D] w fun e w' => ∃ au : Value, e = .returned (.agg #[.bool r1, au]) ∧ Kd.V (Kd.int .u32) 117 w' w.heap.size (fun k_ => (w.heap.size ≤ k_)) au r2 ∧ Below w.heap.size w w' := by
 have hu90 := Try.underlying90; have HB := aM (Below.refl w.heap.size w); rw [truth_of.f] at h; have H := h; clear h
 by_cases c2 : D < 0
 ·rw [if_pos c2] at H; have ay := dT c2; clear c2; obtain ⟨Z, G⟩ : ∃ y_ : List Int, y_ = (([(IntKind.u64.wrap (-(IntKind.u64.wrap (D)))) % 4294967296, ((IntKind.u64.wrap (-(IntKind.u64.wrap (D)))) / 4294967296) % 4294967296] : List Int)) := ⟨_, rfl⟩
  first | replace H := rI G H | rw [← G] at H
  have ap := aM G; clear G; replace H := Option.bind_eq_some_iff.mp H; obtain ⟨⟨J, L⟩, av, H⟩ := H; replace H : (some (J, L)) = some (r1, r2) := H; have A3 := aM av; clear av; simp only [Option.some.injEq, Prod.mk.injEq] at H; obtain ⟨rfl, rfl⟩ := H
  go_enter Try.func40, Try.ntmps40
  go_wp2_with (first | ((with_reducible refine gate_dst (N := 2) rfl ?_); refine be_ (cs := #[.bool false, .slice none 0 0]) (t := 90) ?_; intro B hg w4 hbox hb; have z := aM (hbox); have aq := gE hg (bP0 HB); have A := gE hg (bP0 HB); replace HB := hS0 HB hb; clear hb hbox hg) | ((with_reducible refine gate_dst (N := 17) rfl ?_); refine Kd.R_lit (Kd.int .u32) _ 117 ?hg (N := 17) ?hd (xs := ([(IntKind.u64.wrap (-(IntKind.u64.wrap (D)))) % 4294967296, ((IntKind.u64.wrap (-(IntKind.u64.wrap (D)))) / 4294967296) % 4294967296] : List Int)) (inner := [.int .u32 ((IntKind.u64.wrap (-(IntKind.u64.wrap (D)))) % 4294967296), .int .u32 (((IntKind.u64.wrap (-(IntKind.u64.wrap (D)))) / 4294967296) % 4294967296)]) (ok := fun _ => True) (okp := fun _ => True) ?hr ?hp (fun _ hk => hk) trivial (Below.refl _ _) (Nat.le_refl _) (by simp) ?_; (case hd => rfl); (case hg => rfl); (case hr => first | (go_simp; done) | (go_simp; rfl)); (case hp => exact (Reps.one (show Kd.M (Kd.int .u32) _ _ _ ((IntKind.u64.wrap (-(IntKind.u64.wrap (D)))) % 4294967296) [.int .u32 ((IntKind.u64.wrap (-(IntKind.u64.wrap (D)))) % 4294967296)] from rfl) (Reps.one (show Kd.M (Kd.int .u32) _ _ _ (((IntKind.u64.wrap (-(IntKind.u64.wrap (D)))) / 4294967296) % 4294967296) [.int .u32 (((IntKind.u64.wrap (-(IntKind.u64.wrap (D)))) / 4294967296) % 4294967296)] from rfl) (Reps.none _ _)))); intro aU w5 ab hb hg_ hnew_; clear hg_ hnew_; replace ab := nW ap ab; have E := rW (Kd.R_newM (M := fun k_ => (w.heap.size ≤ k_)) ab (below_size (bP1 HB A)) (fun k_ h_ => h_)) (bP1 HB A); replace z := kB z hb; replace HB := hS1 HB A hb; clear hb ab; obtain ⟨aw, ax, aI⟩ := sL E; subst aI) | ((with_reducible refine gate_callee (f := 66) rfl ?_); refine gL_ (some 18) Try.func66 #[.bool true, .slice aw Z.length ax] ?_; (with_reducible refine (truth_made.calls k true (fun k_ => some k_ = (.slice aw Z.length ax : Value).ownBlock) _ _ Z J L _ ?s1 A3.out).mono ?_); (case s1 => exact Kd.R_V (Kd.R_tight rfl (Kd.R_types (E.out) z.out (by decide)))); rintro e w8 ⟨aV, rfl, Y, hb⟩; refine ⟨_, rfl, ?_⟩; have ac := aM (Kd.V_lower (Kd.V_mono (ok' := fun k_ => (w.heap.size ≤ k_) ∧ k_ ≠ B) Y (fun k_ hk_ => ⟨Or.elim hk_ (fun hs_ => ((Kd.R_types (E.out) z.out (by decide)).1 k_ hs_.symm).1.1) (fun hn_ => (Nat.le_trans (below_size (bP1 HB A)) hn_)), Or.elim hk_ (fun hs_ => ((Kd.R_types (E.out) z.out (by decide)).1 k_ hs_.symm).2) (fun hn_ => (Kd.freshB (g := B) (o := .cells #[.bool false, .slice none 0 0] 90 (0, 0)) (kO z.out) k_ hn_))⟩)) (below_size (bP1 HB A))); replace E := rB E hb; replace z := kB z hb; replace HB := hS1 HB A hb; (try clear hb); (try clear hk); (try clear Y); obtain ⟨aJ, aK, aN, aP⟩ := bG2 z; obtain ⟨ag, ah, az⟩ := Kd.V_slice ac.out; subst az))
  refine bodyPost_ret (results_cell_row rfl _ _ B 90 #[.bool J, .slice ag L.length ah] (0, 0) _ rfl (by (with_reducible repeat (first | refine blk_drewN ?_ _ | refine blk_drew ?_ | refine blk_alloc ?_ _)); exact blk_put (blk_put z.out 0 _ rfl) 1 _ rfl) Try.underlying90 rfl (by kernel_rfl)) rfl ?_; exact ⟨_, eW, by (with_reducible repeat (first | apply Kd.V_alloc | apply Kd.V_drewN | apply Kd.V_drew)); exact Kd.V_mono (Kd.V_far (p := ⟨B, 1, none⟩) (Kd.V_far (p := ⟨B, 0, none⟩) (Kd.V_mono ac.out (fun k_ hk => (⟨hk, hk.2⟩ : _ ∧ k_ ≠ B))) (fun _ hk => hk.2) (.bool J)) (fun _ hk => hk.2) (.slice ag L.length ah)) (fun _ hk => hk.1.1), bS1 HB.out A.out⟩
 ·rw [if_neg c2] at H; have ay := decide_eq_false c2; clear c2; obtain ⟨aa, I⟩ : ∃ y_ : List Int, y_ = (([(IntKind.u64.wrap (D)) % 4294967296, ((IntKind.u64.wrap (D)) / 4294967296) % 4294967296] : List Int)) := ⟨_, rfl⟩
  first | replace H := rI I H | rw [← I] at H
  have ar := aM I; clear I; replace H := Option.bind_eq_some_iff.mp H; obtain ⟨⟨O, Q⟩, ai, H⟩ := H; replace H : (some (O, Q)) = some (r1, r2) := H; have aQ := aM ai; clear ai; simp only [Option.some.injEq, Prod.mk.injEq] at H; obtain ⟨rfl, rfl⟩ := H
  go_enter Try.func40, Try.ntmps40
  go_wp2_with (first | ((with_reducible refine gate_dst (N := 2) rfl ?_); refine be_ (cs := #[.bool false, .slice none 0 0]) (t := 90) ?_; intro B hg aY hbox hb; have z := aM (hbox); have aq := gE hg (bP0 HB); have A := gE hg (bP0 HB); replace HB := hS0 HB hb; clear hb hbox hg) | ((with_reducible refine gate_dst (N := 17) rfl ?_); refine Kd.R_lit (Kd.int .u32) _ 117 ?hg (N := 17) ?hd (xs := ([(IntKind.u64.wrap (D)) % 4294967296, ((IntKind.u64.wrap (D)) / 4294967296) % 4294967296] : List Int)) (inner := [.int .u32 ((IntKind.u64.wrap (D)) % 4294967296), .int .u32 (((IntKind.u64.wrap (D)) / 4294967296) % 4294967296)]) (ok := fun _ => True) (okp := fun _ => True) ?hr ?hp (fun _ hk => hk) trivial (Below.refl _ _) (Nat.le_refl _) (by simp) ?_; (case hd => rfl); (case hg => rfl); (case hr => first | (go_simp; done) | (go_simp; rfl)); (case hp => exact (Reps.one (show Kd.M (Kd.int .u32) _ _ _ ((IntKind.u64.wrap (D)) % 4294967296) [.int .u32 ((IntKind.u64.wrap (D)) % 4294967296)] from rfl) (Reps.one (show Kd.M (Kd.int .u32) _ _ _ (((IntKind.u64.wrap (D)) / 4294967296) % 4294967296) [.int .u32 (((IntKind.u64.wrap (D)) / 4294967296) % 4294967296)] from rfl) (Reps.none _ _)))); intro aW aZ U hb hg_ hnew_; clear hg_ hnew_; replace U := nW ar U; have F := rW (Kd.R_newM (M := fun k_ => (w.heap.size ≤ k_)) U (below_size (bP1 HB A)) (fun k_ h_ => h_)) (bP1 HB A); replace z := kB z hb; replace HB := hS1 HB A hb; clear hb U; obtain ⟨aj, ak, aA⟩ := sL F; subst aA) | ((with_reducible refine gate_callee (f := 66) rfl ?_); refine gL_ (some 18) Try.func66 #[.bool false, .slice aj aa.length ak] ?_; (with_reducible refine (truth_made.calls k false (fun k_ => some k_ = (.slice aj aa.length ak : Value).ownBlock) _ _ aa O Q _ ?s1 aQ.out).mono ?_); (case s1 => exact Kd.R_V (Kd.R_tight rfl (Kd.R_types (F.out) z.out (by decide)))); rintro e a2 ⟨aX, rfl, Y, hb⟩; refine ⟨_, rfl, ?_⟩; have ae := aM (Kd.V_lower (Kd.V_mono (ok' := fun k_ => (w.heap.size ≤ k_) ∧ k_ ≠ B) Y (fun k_ hk_ => ⟨Or.elim hk_ (fun hs_ => ((Kd.R_types (F.out) z.out (by decide)).1 k_ hs_.symm).1.1) (fun hn_ => (Nat.le_trans (below_size (bP1 HB A)) hn_)), Or.elim hk_ (fun hs_ => ((Kd.R_types (F.out) z.out (by decide)).1 k_ hs_.symm).2) (fun hn_ => (Kd.freshB (g := B) (o := .cells #[.bool false, .slice none 0 0] 90 (0, 0)) (kO z.out) k_ hn_))⟩)) (below_size (bP1 HB A))); replace F := rB F hb; replace z := kB z hb; replace HB := hS1 HB A hb; (try clear hb); (try clear hk); (try clear Y); obtain ⟨aD, aE, aG, aH⟩ := bG2 z; obtain ⟨al, am, aC⟩ := Kd.V_slice ae.out; subst aC))
  refine bodyPost_ret (results_cell_row rfl _ _ B 90 #[.bool O, .slice al Q.length am] (0, 0) _ rfl (by (with_reducible repeat (first | refine blk_drewN ?_ _ | refine blk_drew ?_ | refine blk_alloc ?_ _)); exact blk_put (blk_put z.out 0 _ rfl) 1 _ rfl) Try.underlying90 rfl (by kernel_rfl)) rfl ?_; exact ⟨_, eW, by (with_reducible repeat (first | apply Kd.V_alloc | apply Kd.V_drewN | apply Kd.V_drew)); exact Kd.V_mono (Kd.V_far (p := ⟨B, 1, none⟩) (Kd.V_far (p := ⟨B, 0, none⟩) (Kd.V_mono ae.out (fun k_ hk => (⟨hk, hk.2⟩ : _ ∧ k_ ≠ B))) (fun _ hk => hk.2) (.bool O)) (fun _ hk => hk.2) (.slice al Q.length am)) (fun _ hk => hk.1.1), bS1 HB.out A.out⟩

/-! ### truth_whole_minus: function 41 -/
def truth_whole_minus.f (k : Nat) (a0_0 : Bool) (l0_1 : List Int) : Option (Bool × List Int) := (truth_made.f k (!a0_0) l0_1).bind fun bt399 => (some (bt399.1, bt399.2))
theorem truth_whole_minus.mono : ∀ a0 a1 k, LeO (truth_whole_minus.f k a0 a1) (truth_whole_minus.f (k + 1) a0 a1) := by
 intro a0 a1 k
 unfold truth_whole_minus.f
 repeat' first | (with_reducible first | exact truth_made.mono _ _ _ | exact lA | apply lI | refine lB ?_ fun _ => ?_) | exact lN _ | apply lI | refine lB ?_ fun _ => ?_
theorem truth_whole_minus.calls (k : Nat) (G : Bool) (P0_1_ : Nat → Prop) (I : Option Addr) (J : Nat) (B : List Int) (r1 : Bool) (r2 : List Int) (w : World) (hs0_1 : Kd.V (Kd.int .u32) 117 w w.heap.size (fun k_ => P0_1_ k_) (.slice I B.length J) B) (h : truth_whole_minus.f k G B = some (r1, r2)) :
  Calls Try.prog 41 #[.agg #[.bool G, .slice I B.length J]] w fun e w' => ∃ ab : Value, e = .returned (.agg #[.bool r1, ab]) ∧ Kd.V (Kd.int .u32) 117 w' w.heap.size (fun k_ => (P0_1_ k_ ∨ w.heap.size ≤ k_)) ab r2 ∧ Below w.heap.size w w' := by
 have hu90 := Try.underlying90; have D := aM (show Kd.V (Kd.int .u32) 117 w w.heap.size (fun k_ => (P0_1_ k_ ∨ w.heap.size ≤ k_)) (.slice I B.length J) B from Kd.V_mono hs0_1 (fun k_ hk => .inl hk)); have HB := aM (Below.refl w.heap.size w); rw [truth_whole_minus.f] at h; have H := h; clear h; replace H := Option.bind_eq_some_iff.mp H; obtain ⟨⟨Q, U⟩, ac, H⟩ := H; replace H : (some (Q, U)) = some (r1, r2) := H; have A2 := aM ac; clear ac; simp only [Option.some.injEq, Prod.mk.injEq] at H; obtain ⟨rfl, rfl⟩ := H
 go_enter Try.func41, Try.ntmps41
 go_wp2_with (first | ((with_reducible refine gate_dst (N := 1) rfl ?_); refine be_ (cs := #[.bool G, .slice I B.length J]) (t := 90) ?_; intro L hg w3 hbox hb; replace D := aM (Kd.V_below (Kd.V_elderB (vO D.out) L (Nat.le_of_eq hg.symm)) hb); have z := aM (hbox); have au := gE hg (bP0 HB); have E := gE hg (bP0 HB); replace HB := hS0 HB hb; clear hb hbox hg) | ((with_reducible refine gate_dst (N := 2) rfl ?_); refine be_ (cs := #[.bool false, .slice none 0 0]) (t := 90) ?_; intro A hg w4 hbox hb; replace D := aM (Kd.V_below (Kd.V_elderB (vO D.out) A (Nat.le_of_eq hg.symm)) hb); have F := aM (hbox); have av := gE hg (bP1 HB E); have O := gE hg (bP1 HB E); replace HB := hS1 HB E hb; have Y := nL hg z; have Z := nG hg z; replace z := kB z hb; clear hb hbox hg; have ax := Y.out; have ay := Z.out; obtain ⟨aj, ak, al, am⟩ := bG2 z) | ((with_reducible refine gate_callee (f := 66) rfl ?_); refine gL_ (some 8) Try.func66 #[.bool (!G), .slice I B.length J] ?_; (with_reducible refine (truth_made.calls k (!G) (fun k_ => (((P0_1_ k_ ∨ w.heap.size ≤ k_) ∧ k_ ≠ L) ∧ k_ ≠ A)) _ _ B Q U _ ?s1 A2.out).mono ?_); (case s1 => exact D.out); rintro e w7 ⟨az, rfl, ae, hb⟩; refine ⟨_, rfl, ?_⟩; replace D := aM (Kd.V_below (vO D.out) hb); have aa := aM (Kd.V_lower (Kd.V_mono (ok' := fun k_ => (P0_1_ k_ ∨ w.heap.size ≤ k_) ∧ k_ ≠ L ∧ k_ ≠ A) ae (fun k_ hk_ => ⟨Or.elim hk_ (fun hs_ => hs_.1.1) (fun hn_ => (.inr (Nat.le_trans (below_size (bP2 HB E O)) hn_))), Or.elim hk_ (fun hs_ => hs_.1.2) (fun hn_ => (Kd.freshB (g := L) (o := .cells #[.bool G, .slice I B.length J] 90 (0, 0)) (kO z.out) k_ hn_)), Or.elim hk_ (fun hs_ => hs_.2) (fun hn_ => (Kd.freshB (g := A) (o := .cells #[.bool false, .slice none 0 0] 90 (0, 0)) (kO F.out) k_ hn_))⟩)) (below_size (bP2 HB E O))); replace z := kB z hb; replace F := kB F hb; replace HB := hS2 HB E O hb; (try clear hb); (try clear ae); obtain ⟨an, ao, ap, aq⟩ := bG2 F; obtain ⟨af, ag, ar⟩ := Kd.V_slice aa.out; subst ar))
 refine bodyPost_ret (results_cell_row rfl _ _ A 90 #[.bool Q, .slice af U.length ag] (0, 0) _ rfl (by (with_reducible repeat (first | refine blk_drewN ?_ _ | refine blk_drew ?_ | refine blk_alloc ?_ _)); exact blk_put (blk_put F.out 0 _ rfl) 1 _ rfl) Try.underlying90 rfl (by kernel_rfl)) rfl ?_; exact ⟨_, eW, by (with_reducible repeat (first | apply Kd.V_alloc | apply Kd.V_drewN | apply Kd.V_drew)); exact Kd.V_mono (Kd.V_far (p := ⟨A, 1, none⟩) (Kd.V_far (p := ⟨A, 0, none⟩) (Kd.V_mono aa.out (fun k_ hk => (⟨hk, hk.2.2⟩ : _ ∧ k_ ≠ A))) (fun _ hk => hk.2) (.bool Q)) (fun _ hk => hk.2) (.slice af U.length ag)) (fun _ hk => hk.1.1), bS2 HB.out E.out O.out⟩

/-! ### truth_size: function 67 -/
def truth_size.l0 : Nat → List Int → List Int → Int → Option (Int)
 | 0, _, _, _ => none
 | k + 1, x0, x1, x5 => if x5 ≥ 0 then (if 0 ≤ x5 then (if x5 < (x0.length : Int) then (if x5 < (x1.length : Int) then (if (rd x0 x5) = (rd x1 x5) then (truth_size.l0 k x0 x1 (wrap64 (x5 - 1))) else (some (wrap64 ((wrap64 (rd x0 x5)) - (wrap64 (rd x1 x5)))))) else (none)) else (none)) else (none)) else (some 0)
def truth_size.f (k : Nat) (l0 : List Int) (l1 : List Int) : Option (Int) := if (l0.length : Int) = (l1.length : Int) then (truth_size.l0 k l0 l1 (wrap64 ((l0.length : Int) - 1))) else (some (wrap64 ((l0.length : Int) - (l1.length : Int))))
theorem truth_size.mono_l : ∀ k, (∀ y0 y1 y2, LeO (truth_size.l0 k y0 y1 y2) (truth_size.l0 (k + 1) y0 y1 y2))
 | 0 => fun _ _ _ r h => by simp [truth_size.l0] at h
 | k + 1 => by
  have ih0 := truth_size.mono_l k
  ·intro y0 y1 y2
   unfold truth_size.l0
   repeat' first | (with_reducible first | exact ih0 _ _ _ | exact lA | apply lI | refine lB ?_ fun _ => ?_) | exact lN _ | apply lI | refine lB ?_ fun _ => ?_
theorem truth_size.mono : ∀ a0 a1 k, LeO (truth_size.f k a0 a1) (truth_size.f (k + 1) a0 a1) := by
 intro a0 a1 k; have ih0 := truth_size.mono_l k
 unfold truth_size.f
 repeat' first | (with_reducible first | exact ih0 _ _ _ | exact lA | apply lI | refine lB ?_ fun _ => ?_) | exact lN _ | apply lI | refine lB ?_ fun _ => ?_
theorem truth_size.calls (k : Nat) (A0 : Option Addr) (c0 : Nat) (A : List Int) (A1 : Option Addr) (c1 : Nat) (G : List Int) (r : Int) (w : World) (an : Kd.C (Kd.int .u32) w A0 A.length A) (ao : A.length ≤ c0) (ap : Kd.C (Kd.int .u32) w A1 G.length G) (aq : G.length ≤ c1) (h : truth_size.f k A G = some r) :
  Calls Try.prog 67 #[.slice A0 A.length c0, .slice A1 G.length c1] w fun e w' => e = .returned (.int .i64 r) ∧ Drawn0 w w' := by
 have af := aM an; have aQ := aM ao; clear an ao; have ag := aM ap; have aT := aM aq; clear ap aq; rw [truth_size.f] at h; have H := h; clear h
 by_cases I : (A.length : Int) = (G.length : Int)
 ·rw [if_pos I] at H; obtain ⟨ar, au⟩ := bq I
  have av : (A.length == G.length) = true := by first | simpa using I | (simp at I ⊢; omega)
  clear I; have H' := aM H; clear H
  go_enter Try.func67, Try.ntmps67
  go_wp2
  repeat (go_quiet (fail); try go_wp2)
  go_loopg [5] k (fun kq v5 w' => ∃ (z : Int), v5 = .int .i64 z ∧ Aside0 (truth_size.l0 kq A G z = some r) ∧ Aside0 (kq ≤ k) ∧ Drawn0 w w')
  case atStart => exact ⟨(wrap64 ((A.length : Int) - 1)), sI, H', ⟨Nat.le_refl _⟩, by repeat (first | exact Drawn0.refl _ | apply Drawn0.step)⟩
  case round =>
   clear H'
   obtain ⟨z, rfl, HA, HK1, ⟨m1, rfl⟩⟩ := hrel; cases gk with
   | zero => exact absurd HA.out (by simp [truth_size.l0])
   | succ k1 =>
    have H := HA.out; clear HA; simp only [truth_size.l0] at H
    by_cases c4 : z ≥ 0
    ·rw [if_pos c4] at H; have aw := dT c4; clear c4
     by_cases c5 : 0 ≤ z
     ·rw [if_pos c5] at H; have aK := dT c5; clear c5
      by_cases c6 : z < (A.length : Int)
      ·rw [if_pos c6] at H; have aN := dT c6; clear c6
       by_cases c7 : z < (G.length : Int)
       ·rw [if_pos c7] at H; have aP := dT c7; clear c7
        by_cases c8 : (rd A z) = (rd G z)
        ·rw [if_pos c8] at H; obtain ⟨ax, ay⟩ := bq c8; clear c8; have H' := aM H; clear H; have B : 0 ≤ (z : Int) := oT aO; have D : z < (A.length : Int) := oT aO; obtain ⟨Z, J, ac⟩ := Kd.at_int af.out z B D; cases J; replace B := eq_true B; replace D := eq_true D; have E : 0 ≤ (z : Int) := oT aO; have F : z < (G.length : Int) := oT aO; obtain ⟨aa, L, ae⟩ := Kd.at_int ag.out z E F; cases L; replace E := eq_true E; replace F := eq_true F
         go_wp2
         repeat (go_quiet (fail); try go_wp2)
         go_roundg k1
         case measure => have := HK1.out; omega
         case rel => exact ⟨(wrap64 (z - 1)), sI, H', ⟨by have := HK1.out; omega⟩, by repeat (first | exact Drawn0.refl _ | apply Drawn0.step)⟩
        ·rw [if_neg c8] at H; obtain ⟨ax, ay⟩ := bn c8; obtain rfl := Option.some.inj H; have B : 0 ≤ (z : Int) := oT aO; have D : z < (A.length : Int) := oT aO; obtain ⟨Z, J, ac⟩ := Kd.at_int af.out z B D; cases J; replace B := eq_true B; replace D := eq_true D; have E : 0 ≤ (z : Int) := oT aO; have F : z < (G.length : Int) := oT aO; obtain ⟨aa, L, ae⟩ := Kd.at_int ag.out z E F; cases L; replace E := eq_true E; replace F := eq_true F; have O : 0 ≤ (z : Int) := oT aO; have Q : z < (A.length : Int) := oT aO; obtain ⟨al, az, aC⟩ := Kd.at_int af.out z O Q; have he_ : Z = al := (by injection az); subst he_; replace O := eq_true O; replace Q := eq_true Q; have U : 0 ≤ (z : Int) := oT aO; have Y : z < (G.length : Int) := oT aO; obtain ⟨am, aA, aD⟩ := Kd.at_int ag.out z U Y; have he_ : aa = am := (by injection aA); subst he_; replace U := eq_true U; replace Y := eq_true Y
         go_wp2
         repeat (go_quiet (fail); try go_wp2)
         go_ret
         exact ⟨by first | rfl | (simp; done) | (simp [*]; done), by repeat (first | exact Drawn0.refl _ | apply Drawn0.step)⟩
       ·exact nX c7 H
      ·exact nX c6 H
     ·exact nX c5 H
    ·rw [if_neg c4] at H; have aw := decide_eq_false c4; clear c4; obtain rfl := Option.some.inj H
     go_wp2
     repeat (go_quiet (fail); try go_wp2)
     go_ret
     exact ⟨by first | rfl | (simp; done) | (simp [*]; done), by repeat (first | exact Drawn0.refl _ | apply Drawn0.step)⟩
 ·rw [if_neg I] at H; obtain ⟨ar, au⟩ := bn I
  have av : (A.length == G.length) = false := by first | simpa using I | (simp at I ⊢; omega)
  obtain rfl := Option.some.inj H
  go_enter Try.func67, Try.ntmps67
  go_wp2
  repeat (go_quiet (fail); try go_wp2)
  go_ret
  exact ⟨by first | rfl | (simp; done) | (simp [*]; done), by repeat (first | exact Drawn0.refl _ | apply Drawn0.step)⟩

/-! ### slices_Clone_uint32_uint32: function 89 -/
def slices_Clone_uint32_uint32.f (l0 : List (Int)) : Option (List (Int)) := if l0.length < 35184372088832 then some l0 else none
theorem slices_Clone_uint32_uint32.calls (J : Option Addr) (L : Nat) (z : List (Int)) (r : List (Int)) (w : World) (A : Kd.C (Kd.int .u32) w J z.length z) (Z : z.length ≤ L) (h : slices_Clone_uint32_uint32.f z = some r) :
  Calls Try.prog 89 #[.slice J z.length L] w fun e w' => ∃ B : Value, e = .returned (B) ∧ Kd.R (Kd.int .u32) 117 w' w.heap.size (fun _ => True) B r ∧ Below w.heap.size w w' := by
 have HB := aM (Below.refl w.heap.size w)
 have hlim : z.length < 35184372088832 ∧ z = r := by
  unfold slices_Clone_uint32_uint32.f at h
  by_cases hc : z.length < 35184372088832
  ·rw [if_pos hc] at h; exact ⟨hc, Option.some.inj h⟩
  ·rw [if_neg hc] at h; cases h
 obtain ⟨hlim, rfl⟩ := hlim; have HL := aM hlim; have D := aM A; clear A hlim h; cases J with
 | none =>
  have O : z.length = 0 := by
   rcases Nat.eq_zero_or_pos z.length with h | h
   ·exact h
   ·obtain ⟨ad, U, _⟩ := D.out.2.2 h; cases U
  obtain rfl := List.eq_nil_of_length_eq_zero O; clear O
  have hn := fun (W : World) (n c : Nat) => Lib.run_eql_slice_nil (P := Try.prog) W 88 117 none n c 0 0 Try.underlying88
  go_enter Try.func89, Try.ntmps89
  go_wp2
  go_ret
  exact ⟨_, rfl, Kd.R_nil _ _ _ _ _, HB.out⟩
 | some ad =>
  have hn := fun (W : World) (n c : Nat) => Lib.run_eql_slice_nil (P := Try.prog) W 88 117 (some ad) n c 0 0 Try.underlying88
  go_enter Try.func89, Try.ntmps89
  go_wp2_with (first
   | ((with_reducible refine gate_dst (N := 5) rfl ?_); refine Kd.R_lit (Kd.int .u32) _ 117 ?hg (N := 5) ?hd (xs := ([] : List (Int))) (inner := []) (ok := fun _ => True) (okp := fun _ => True) ?hr ?hp (fun _ hk => hk) trivial (Below.refl _ _) (Nat.le_refl _) (by simp) ?_; (case hd => rfl); (case hg => rfl); (case hr => first | (go_simp; done) | (go_simp; rfl)); (case hp => exact (Reps.none _ _)); intro Y w1 E hb hg_ hnew_; clear hg_ hnew_; have F := aM (Kd.R_lower E (below_size HB.out)); replace HB := aM (below_step HB.out hb); clear hb E)
   | ((with_reducible refine gate_builtin (b := .append) (xs := #[.tmp 5, .tmp 6]) rfl ?_); at_builtin; refine Kd.R_append_rows (Kd.int .u32) (w0 := w) w.heap.size rfl (.tmp 5) (.tmp 6) 88 117 (.int .u32 0) 4 rfl Try.underlying88 info117 rfl (by decide) (by omega) Y [] z _ _ _ (fun _ => True) (fun _ => False) rfl rfl ?aO ?aR (fun _ _ h => h) (fun _ h => h.elim) ?aF ?aB ?aS ?aL ?_; (case aR => exact (Kd.C_below D.out HB.out)); (case aB => exact HB.out); (case aF => exact (fun _ _ => trivial)); (case aO => exact F.out); (case aS => exact (below_size HB.out)); (case aL => have := HL.out; simp only [List.length_nil]; omega); intro v2 w2 ho hb hg hat; have G := aM (hb); have I := aM (ho); clear HB F; have HB := G; have Q := I; clear G I; clear ho hb hg hat))
  go_ret
  exact ⟨_, rfl, Q.out, HB.out⟩

end Go.Proofs.Ythgoonohpfoagaa.X
namespace Go.Proofs.Ythgoonohpfoagaa.X
open Go.RowKit Go.Proofs.YthgoonohpfoagaaW.PrintWords Go.Proofs.YthgoonohpfoagaaW.PrintLast Go.Proofs.YthgoonohpfoagaaW.PrintMore
attribute [local go_sem] max2_int min2_int max_two min_two max_three min_three max_four min_four
set_option linter.unusedVariables false
set_option linter.unusedSimpArgs false
set_option maxHeartbeats 8000000
set_option maxRecDepth 100000

/-! ### truth_added: function 68 -/
def truth_added.l0 : Nat → List Int → List Int → Int → Int → Int → Option (List Int)
 | 0, _, _, _, _, _ => none
 | k + 1, x1, x5, x6, x12, x13 => if x13 < x12 then (if 0 ≤ x13 then (if x13 < (x5.length : Int) then (if x13 < (x1.length : Int) then (truth_added.l0 k x1 (x5.set (x13 : Int).toNat ((IntKind.u64.wrap ((IntKind.u64.wrap ((IntKind.u64.wrap (rd x5 x13)) + x6)) + (IntKind.u64.wrap (rd x1 x13)))) % 4294967296)) ((IntKind.u64.wrap ((IntKind.u64.wrap ((IntKind.u64.wrap (rd x5 x13)) + x6)) + (IntKind.u64.wrap (rd x1 x13)))) / 4294967296) x12 (wrap64 (x13 + 1))) else (truth_added.l0 k x1 (x5.set (x13 : Int).toNat ((IntKind.u64.wrap ((IntKind.u64.wrap (rd x5 x13)) + x6)) % 4294967296)) ((IntKind.u64.wrap ((IntKind.u64.wrap (rd x5 x13)) + x6)) / 4294967296) x12 (wrap64 (x13 + 1)))) else (none)) else (none)) else (if x5.length < 35184372088832 then (some (x5 ++ [(x6) % 4294967296])) else (none))
def truth_added.f (k : Nat) (l0 : List Int) (l1 : List Int) : Option (List Int) := (slices_Clone_uint32_uint32.f l0).bind fun t407 => (truth_added.l0 k l1 t407 0 (t407.length : Int) 0)
theorem truth_added.mono_l : ∀ k, (∀ y0 y1 y2 y3 y4, LeO (truth_added.l0 k y0 y1 y2 y3 y4) (truth_added.l0 (k + 1) y0 y1 y2 y3 y4))
 | 0 => fun _ _ _ _ _ r h => by simp [truth_added.l0] at h
 | k + 1 => by
  have ih0 := truth_added.mono_l k
  ·intro y0 y1 y2 y3 y4
   unfold truth_added.l0
   repeat' first | (with_reducible first | exact ih0 _ _ _ _ _ | exact lA | apply lI | refine lB ?_ fun _ => ?_) | exact lN _ | apply lI | refine lB ?_ fun _ => ?_
theorem truth_added.mono : ∀ a0 a1 k, LeO (truth_added.f k a0 a1) (truth_added.f (k + 1) a0 a1) := by
 intro a0 a1 k; have ih0 := truth_added.mono_l k
 unfold truth_added.f
 repeat' first | (with_reducible first | exact ih0 _ _ _ _ _ | exact lA | apply lI | refine lB ?_ fun _ => ?_) | exact lN _ | apply lI | refine lB ?_ fun _ => ?_
theorem truth_added.calls (k : Nat) (A0 : Option Addr) (c0 : Nat) (Q : List Int) (A1 : Option Addr) (c1 : Nat) (J : List Int) (r : List Int) (w : World) (aC : Kd.C (Kd.int .u32) w A0 Q.length Q) (aD : Q.length ≤ c0) (aE : Kd.C (Kd.int .u32) w A1 J.length J) (aG : J.length ≤ c1) (h : truth_added.f k Q J = some r) :
  Calls Try.prog 68 #[.slice A0 Q.length c0, .slice A1 J.length c1] w fun e w' => ∃ aH : Value, e = .returned (aH) ∧ Kd.R (Kd.int .u32) 117 w' w.heap.size (fun _ => True) aH r ∧ Below w.heap.size w w' := by
 have aW := aM aC; have aX := aM aD; clear aC aD; have aY := aM aE; have be := aM aG; clear aE aG; have HB := aM (Below.refl w.heap.size w); rw [truth_added.f] at h; have H := h; clear h; replace H := Option.bind_eq_some_iff.mp H; obtain ⟨O, aI, H⟩ := H; have A3 := aM aI; clear aI; have H' := aM H; clear H
 go_enter Try.func68, Try.ntmps68
 go_wp2_with (first | ((with_reducible refine gate_callee (f := 89) rfl ?_); refine gL_ (some 10) Try.func89 #[.slice A0 Q.length c0] ?_; (with_reducible refine (slices_Clone_uint32_uint32.calls _ _ Q O _ ?s1 aX.out A3.out).mono ?_); (case s1 => exact cO aW.out); rintro e w4 ⟨a7, rfl, aJ, hb⟩; refine ⟨_, rfl, ?_⟩; have aa := rW aJ (bP0 HB); replace HB := hS0 HB hb; (try clear hb); (try clear aJ); obtain ⟨aK, ab, aZ⟩ := sL aa; subst aZ))
 go_loopg [6, 13] k (fun kq v6 a2 w' => ∃ (A : List Int) (D : Int) (z : Int), v6 = .int .u64 D ∧ a2 = .int .i64 z ∧ Aside0 (truth_added.l0 kq J A D (O.length : Int) z = some r) ∧ Aside0 (kq ≤ k) ∧ RA (Kd.int .u32) 117 w' w (.slice aK O.length ab) A ∧ BA w w')
 case atStart => exact ⟨(O), (0), (0), sI, sI, H', ⟨Nat.le_refl _⟩, rQ aa, bT0 HB⟩
 case round =>
  clear H'
  obtain ⟨A, D, z, rfl, rfl, HA, HK1, B, HB⟩ := hrel; have E := (rR B).1; rw [E] at B
  (try simp only [E])
  cases gk with
  | zero => exact absurd HA.out (by simp [truth_added.l0])
  | succ k1 =>
   have H := HA.out; clear HA; simp only [truth_added.l0] at H
   by_cases c6 : z < (O.length : Int)
   ·rw [if_pos c6] at H; have U := dT c6
    (try (have c6b0hl5_1 := U; rw [E] at c6b0hl5_1))
    clear c6
    by_cases c7 : 0 ≤ z
    ·rw [if_pos c7] at H; have a9 := dT c7; clear c7
     by_cases c8 : z < (A.length : Int)
     ·rw [if_pos c8] at H; have aR := dT c8
      (try (have c8b0hl5_1 := aR; rw [E] at c8b0hl5_1))
      clear c8
      by_cases c9 : z < (J.length : Int)
      ·rw [if_pos c9] at H; have V := dT c9
       (try (have c9b0hl5_1 := V; rw [E] at c9b0hl5_1))
       clear c9; obtain ⟨af, L⟩ : ∃ y_ : List Int, y_ = (A.set (z : Int).toNat ((IntKind.u64.wrap ((IntKind.u64.wrap ((IntKind.u64.wrap (rd A z)) + D)) + (IntKind.u64.wrap (rd J z)))) % 4294967296)) := ⟨_, rfl⟩
       first | replace H := rI L H | rw [← L] at H
       have av := aM L; clear L; have H' := aM H; clear H; have F : 0 ≤ (z : Int) := oT aO; have G : z < (A.length : Int) := oT aO; obtain ⟨aw, W, I⟩ := Kd.at_int (rR B).2.2 z F G; cases W; replace F := eq_true F; replace G := eq_true G; have Y : 0 ≤ (z : Int) := oT aO; have Z : z < (J.length : Int) := oT aO; obtain ⟨a5, aT, P⟩ := Kd.at_int aY.out z Y Z; cases aT; replace P := cX HB P; replace Y := eq_true Y; replace Z := eq_true Z; have ag : 0 ≤ (z : Int) := oT aO; have ah : (z : Int) < ((A.length : Int) : Int) := oT aO; obtain ⟨go10, ba, ai, aj, gl10, cl10, HG10⟩ := Kd.R_form B.out (by omega)
       (first | cases ai | (injection ai with ea_ en_ ec_; (first | subst ea_ | (injection ea_ with ea_; subst ea_)); subst ec_; clear en_))
       have GB10 := aM aj; have GG10 := aM HG10; clear aj gl10 HG10
       (first | simp only [add_plain] at I | skip)
       obtain ⟨a3, hf10_0⟩ := Kd.R_celln 0 B.out (z : Int) ag ah; replace ag := eq_true ag; replace ah := eq_true ah; have HP11 := Kd.R_putg B.out (z : Int) ((IntKind.u64.wrap ((IntKind.u64.wrap ((IntKind.u64.wrap (rd A z)) + D)) + (IntKind.u64.wrap (rd J z)))) % 4294967296)
       go_wp2_with (first | ((with_reducible refine gate_store (t := 117) (p := 40) rfl ?_); refine store_event (t := 117) (p := 40) (v := ?vo_w12) (w1 := (wr.setCell ⟨go10, (z : Int).toNat, none⟩ (.int .u32 ((IntKind.u64.wrap ((IntKind.u64.wrap ((IntKind.u64.wrap (rd A z)) + D)) + (IntKind.u64.wrap (rd J z)))) % 4294967296)))) ?hg ?ho ?hn ?hr ?_; (case ho => rfl); (case hg => rfl); (case hn => rfl); (case hr => first | (go_simp; done) | (go_simp; rfl)); intro ak hw; have hg : wr.grownBy ak (some go10) := (by rw [hw]; exact HP11.2); have hp_ : Kd.R (Kd.int .u32) 117 ak w.heap.size (fun _ => True) (.slice (some ⟨go10, 0, none⟩) A.length ab) af := (by rw [hw, av.out]; exact HP11.1); clear HP11; replace B := aM (hp_); replace HB := aM ((by rw [hw]; exact below_set (HB.out) GB10.out : Below w.heap.size w ak)); clear hg hw hp_))
       (try simp only [← E])
       go_roundg k1
       case measure => have := HK1.out; omega
       case rel => exact ⟨(af), ((IntKind.u64.wrap ((IntKind.u64.wrap ((IntKind.u64.wrap (rd A z)) + D)) + (IntKind.u64.wrap (rd J z)))) / 4294967296), (wrap64 (z + 1)), sI, sI, H', ⟨by have := HK1.out; omega⟩, ⟨by (try simp only [E]); (with_reducible repeat (first | apply Kd.R_alloc | apply Kd.R_drewN | apply Kd.R_drew)); exact B.out⟩, bT0 HB⟩
      ·rw [if_neg c9] at H; have V := decide_eq_false c9
       (try (have c9b0hl5_1 := V; rw [E] at c9b0hl5_1))
       clear c9; obtain ⟨al, M⟩ : ∃ y_ : List Int, y_ = (A.set (z : Int).toNat ((IntKind.u64.wrap ((IntKind.u64.wrap (rd A z)) + D)) % 4294967296)) := ⟨_, rfl⟩
       first | replace H := rI M H | rw [← M] at H
       have ax := aM M; clear M; have H' := aM H; clear H; have F : 0 ≤ (z : Int) := oT aO; have G : z < (A.length : Int) := oT aO; obtain ⟨aw, W, I⟩ := Kd.at_int (rR B).2.2 z F G; cases W; replace F := eq_true F; replace G := eq_true G; have am : 0 ≤ (z : Int) := oT aO; have an : (z : Int) < ((A.length : Int) : Int) := oT aO; obtain ⟨go13, bb, ao, ap, gl13, cl13, HG13⟩ := Kd.R_form B.out (by omega)
       (first | cases ao | (injection ao with ea_ en_ ec_; (first | subst ea_ | (injection ea_ with ea_; subst ea_)); subst ec_; clear en_))
       have GB13 := aM ap; have GG13 := aM HG13; clear ap gl13 HG13
       (first | simp only [add_plain] at I | skip)
       obtain ⟨a4, hf13_0⟩ := Kd.R_celln 0 B.out (z : Int) am an; replace am := eq_true am; replace an := eq_true an; have HP14 := Kd.R_putg B.out (z : Int) ((IntKind.u64.wrap ((IntKind.u64.wrap (rd A z)) + D)) % 4294967296)
       go_wp2_with (first | ((with_reducible refine gate_store (t := 117) (p := 40) rfl ?_); refine store_event (t := 117) (p := 40) (v := ?vo_w15) (w1 := (wr.setCell ⟨go13, (z : Int).toNat, none⟩ (.int .u32 ((IntKind.u64.wrap ((IntKind.u64.wrap (rd A z)) + D)) % 4294967296)))) ?hg ?ho ?hn ?hr ?_; (case ho => rfl); (case hg => rfl); (case hn => rfl); (case hr => first | (go_simp; done) | (go_simp; rfl)); intro aq hw; have hg : wr.grownBy aq (some go13) := (by rw [hw]; exact HP14.2); have hp_ : Kd.R (Kd.int .u32) 117 aq w.heap.size (fun _ => True) (.slice (some ⟨go13, 0, none⟩) A.length ab) al := (by rw [hw, ax.out]; exact HP14.1); clear HP14; replace B := aM (hp_); replace HB := aM ((by rw [hw]; exact below_set (HB.out) GB13.out : Below w.heap.size w aq)); clear hg hw hp_))
       (try simp only [← E])
       go_roundg k1
       case measure => have := HK1.out; omega
       case rel => exact ⟨(al), ((IntKind.u64.wrap ((IntKind.u64.wrap (rd A z)) + D)) / 4294967296), (wrap64 (z + 1)), sI, sI, H', ⟨by have := HK1.out; omega⟩, ⟨by (try simp only [E]); (with_reducible repeat (first | apply Kd.R_alloc | apply Kd.R_drewN | apply Kd.R_drew)); exact B.out⟩, bT0 HB⟩
     ·exact nX c8 H
    ·exact nX c7 H
   ·rw [if_neg c6] at H; have U := decide_eq_false c6
    (try (have c6b0hl5_1 := U; rw [E] at c6b0hl5_1))
    clear c6
    by_cases ac : A.length < 35184372088832
    ·rw [if_pos ac] at H; have ay := aM ac; clear ac; obtain ⟨bc, N⟩ : ∃ y_ : List Int, y_ = (A ++ [(D) % 4294967296]) := ⟨_, rfl⟩
     first | replace H := rI N H | rw [← N] at H
     have az := aM N; clear N; obtain rfl := Option.some.inj H
     go_wp2_with (first | ((with_reducible refine gate_builtin (b := .append) (xs := #[.tmp 42, .tmp 45]) rfl ?_); at_builtin; refine Kd.R_append (Kd.int .u32) (w0 := w) w.heap.size rfl (.tmp 42) (.tmp 45) 88 117 (.int .u32 0) 4 rfl Try.underlying88 info117 rfl (by decide) (by omega) (.slice aK A.length ab) A ((D) % 4294967296) [.int .u32 ((D) % 4294967296)] (fun _ => True) (fun _ => False) rfl rfl ?aP (fun _ hk => hk.elim) ?aF ?aO ?aB ?aS ?aL ?_; (case aP => exact rfl); (case aB => exact (bP0 HB)); (case aF => exact (fun _ _ => trivial)); (case aO => exact (rP B)); (case aS => exact (below_size (bP0 HB))); (case aL => have := ay.out; omega); intro bd bf ho hb hg hat; rw [← az.out] at ho; replace HB := aM (hb); have aA := aM (ho); clear B; clear ho hb hg hat))
     go_ret
     exact ⟨_, eW, rO aA.out, bO HB.out⟩
    ·exact nX ac H

end Go.Proofs.Ythgoonohpfoagaa.X
namespace Go.Proofs.Ythgoonohpfoagaa.X
open Go.RowKit Go.Proofs.YthgoonohpfoagaaW.PrintWords Go.Proofs.YthgoonohpfoagaaW.PrintLast Go.Proofs.YthgoonohpfoagaaW.PrintMore
attribute [local go_sem] max2_int min2_int max_two min_two max_three min_three max_four min_four
set_option linter.unusedVariables false
set_option linter.unusedSimpArgs false
set_option maxHeartbeats 8000000
set_option maxRecDepth 100000

/-! ### truth_taken: function 69 -/
def truth_taken.l0 : Nat → List Int → List Int → Int → Int → Int → Option (List Int)
 | 0, _, _, _, _, _ => none
 | k + 1, x1, x5, x6, x12, x13 => if x13 < x12 then (if 0 ≤ x13 then (if x13 < (x5.length : Int) then (if x13 < (x1.length : Int) then (if (wrap64 ((wrap64 ((wrap64 (rd x5 x13)) - x6)) - (wrap64 (rd x1 x13)))) < 0 then (truth_taken.l0 k x1 (x5.set (x13 : Int).toNat ((wrap64 ((wrap64 ((wrap64 ((wrap64 (rd x5 x13)) - x6)) - (wrap64 (rd x1 x13)))) + 4294967296)) % 4294967296)) 1 x12 (wrap64 (x13 + 1))) else (truth_taken.l0 k x1 (x5.set (x13 : Int).toNat ((wrap64 ((wrap64 ((wrap64 (rd x5 x13)) - x6)) - (wrap64 (rd x1 x13)))) % 4294967296)) 0 x12 (wrap64 (x13 + 1)))) else (if (wrap64 ((wrap64 (rd x5 x13)) - x6)) < 0 then (truth_taken.l0 k x1 (x5.set (x13 : Int).toNat ((wrap64 ((wrap64 ((wrap64 (rd x5 x13)) - x6)) + 4294967296)) % 4294967296)) 1 x12 (wrap64 (x13 + 1))) else (truth_taken.l0 k x1 (x5.set (x13 : Int).toNat ((wrap64 ((wrap64 (rd x5 x13)) - x6)) % 4294967296)) 0 x12 (wrap64 (x13 + 1))))) else (none)) else (none)) else (some x5)
def truth_taken.f (k : Nat) (l0 : List Int) (l1 : List Int) : Option (List Int) := (slices_Clone_uint32_uint32.f l0).bind fun t417 => (truth_taken.l0 k l1 t417 0 (t417.length : Int) 0)
theorem truth_taken.mono_l : ∀ k, (∀ y0 y1 y2 y3 y4, LeO (truth_taken.l0 k y0 y1 y2 y3 y4) (truth_taken.l0 (k + 1) y0 y1 y2 y3 y4))
 | 0 => fun _ _ _ _ _ r h => by simp [truth_taken.l0] at h
 | k + 1 => by
  have ih0 := truth_taken.mono_l k
  ·intro y0 y1 y2 y3 y4
   unfold truth_taken.l0
   repeat' first | (with_reducible first | exact ih0 _ _ _ _ _ | exact lA | apply lI | refine lB ?_ fun _ => ?_) | exact lN _ | apply lI | refine lB ?_ fun _ => ?_
theorem truth_taken.mono : ∀ a0 a1 k, LeO (truth_taken.f k a0 a1) (truth_taken.f (k + 1) a0 a1) := by
 intro a0 a1 k; have ih0 := truth_taken.mono_l k
 unfold truth_taken.f
 repeat' first | (with_reducible first | exact ih0 _ _ _ _ _ | exact lA | apply lI | refine lB ?_ fun _ => ?_) | exact lN _ | apply lI | refine lB ?_ fun _ => ?_
theorem truth_taken.calls (k : Nat) (A0 : Option Addr) (c0 : Nat) (l0 : List Int) (A1 : Option Addr) (c1 : Nat) (L : List Int) (r : List Int) (w : World) (aU : Kd.C (Kd.int .u32) w A0 l0.length l0) (aV : l0.length ≤ c0) (aW : Kd.C (Kd.int .u32) w A1 L.length L) (aX : L.length ≤ c1) (h : truth_taken.f k l0 L = some r) :
  Calls Try.prog 69 #[.slice A0 l0.length c0, .slice A1 L.length c1] w fun e w' => ∃ aY : Value, e = .returned (aY) ∧ Kd.R (Kd.int .u32) 117 w' w.heap.size (fun _ => True) aY r ∧ Below w.heap.size w w' := by
 have a9 := aM aU; have ba := aM aV; clear aU aV; have aZ := aM aW; have bq := aM aX; clear aW aX; have HB := aM (Below.refl w.heap.size w); rw [truth_taken.f] at h; have H := h; clear h; replace H := Option.bind_eq_some_iff.mp H; obtain ⟨W, a2, H⟩ := H; have A3 := aM a2; clear a2; have H' := aM H; clear H
 go_enter Try.func69, Try.ntmps69
 go_wp2_with (first | ((with_reducible refine gate_callee (f := 89) rfl ?_); refine gL_ (some 10) Try.func89 #[.slice A0 l0.length c0] ?_; (with_reducible refine (slices_Clone_uint32_uint32.calls _ _ l0 W _ ?s1 ba.out A3.out).mono ?_); (case s1 => exact cO a9.out); rintro e w4 ⟨bj, rfl, a3, hb⟩; refine ⟨_, rfl, ?_⟩; have ag := rW a3 (bP0 HB); replace HB := hS0 HB hb; (try clear hb); (try clear a3); obtain ⟨bb, ab, bc⟩ := sL ag; subst bc))
 go_loopg [6, 13] k (fun kq v6 bd w' => ∃ (A : List Int) (E : Int) (z : Int), v6 = .int .i64 E ∧ bd = .int .i64 z ∧ Aside0 (truth_taken.l0 kq L A E (W.length : Int) z = some r) ∧ Aside0 (kq ≤ k) ∧ RA (Kd.int .u32) 117 w' w (.slice bb W.length ab) A ∧ BA w w')
 case atStart => exact ⟨(W), (0), (0), sI, sI, H', ⟨Nat.le_refl _⟩, rQ ag, bT0 HB⟩
 case round =>
  clear H'
  obtain ⟨A, E, z, rfl, rfl, HA, HK1, B, HB⟩ := hrel; have D := (rR B).1; rw [D] at B
  (try simp only [D])
  cases gk with
  | zero => exact absurd HA.out (by simp [truth_taken.l0])
  | succ k1 =>
   have H := HA.out; clear HA; simp only [truth_taken.l0] at H
   by_cases c6 : z < (W.length : Int)
   ·rw [if_pos c6] at H; have ad := dT c6
    (try (have c6b0hl5_1 := ad; rw [D] at c6b0hl5_1))
    clear c6
    by_cases c7 : 0 ≤ z
    ·rw [if_pos c7] at H; have bl := dT c7; clear c7
     by_cases c8 : z < (A.length : Int)
     ·rw [if_pos c8] at H; have a6 := dT c8
      (try (have c8b0hl5_1 := a6; rw [D] at c8b0hl5_1))
      clear c8
      by_cases c9 : z < (L.length : Int)
      ·rw [if_pos c9] at H; have ae := dT c9
       (try (have c9b0hl5_1 := ae; rw [D] at c9b0hl5_1))
       clear c9
       by_cases Y : (wrap64 ((wrap64 ((wrap64 (rd A z)) - E)) - (wrap64 (rd L z)))) < 0
       ·rw [if_pos Y] at H; have aL := dT Y; clear Y; obtain ⟨aj, P⟩ : ∃ y_ : List Int, y_ = (A.set (z : Int).toNat ((wrap64 ((wrap64 ((wrap64 ((wrap64 (rd A z)) - E)) - (wrap64 (rd L z)))) + 4294967296)) % 4294967296)) := ⟨_, rfl⟩
        first | replace H := rI P H | rw [← P] at H
        have aN := aM P; clear P; have H' := aM H; clear H; have F : 0 ≤ (z : Int) := oT aO; have G : z < (A.length : Int) := oT aO; obtain ⟨aa, M, I⟩ := Kd.at_int (rR B).2.2 z F G; cases M; replace F := eq_true F; replace G := eq_true G; have N : 0 ≤ (z : Int) := oT aO; have O : z < (L.length : Int) := oT aO; obtain ⟨aP, af, J⟩ := Kd.at_int aZ.out z N O; cases af; replace J := cX HB J; replace N := eq_true N; replace O := eq_true O; have ak : 0 ≤ (z : Int) := oT aO; have al : (z : Int) < ((A.length : Int) : Int) := oT aO; obtain ⟨go11, bm, am, an, gl11, cl11, HG11⟩ := Kd.R_form B.out (by omega)
        (first | cases am | (injection am with ea_ en_ ec_; (first | subst ea_ | (injection ea_ with ea_; subst ea_)); subst ec_; clear en_))
        have GB11 := aM an; have GG11 := aM HG11; clear an gl11 HG11
        (first | simp only [add_plain] at I | skip)
        obtain ⟨be, hf11_0⟩ := Kd.R_celln 0 B.out (z : Int) ak al; replace ak := eq_true ak; replace al := eq_true al; have HP12 := Kd.R_putg B.out (z : Int) ((wrap64 ((wrap64 ((wrap64 ((wrap64 (rd A z)) - E)) - (wrap64 (rd L z)))) + 4294967296)) % 4294967296)
        go_wp2_with (first | ((with_reducible refine gate_store (t := 117) (p := 42) rfl ?_); refine store_event (t := 117) (p := 42) (v := ?vo_w13) (w1 := (wr.setCell ⟨go11, (z : Int).toNat, none⟩ (.int .u32 ((wrap64 ((wrap64 ((wrap64 ((wrap64 (rd A z)) - E)) - (wrap64 (rd L z)))) + 4294967296)) % 4294967296)))) ?hg ?ho ?hn ?hr ?_; (case ho => rfl); (case hg => rfl); (case hn => rfl); (case hr => first | (go_simp; done) | (go_simp; rfl)); intro ao hw; have hg : wr.grownBy ao (some go11) := (by rw [hw]; exact HP12.2); have hp_ : Kd.R (Kd.int .u32) 117 ao w.heap.size (fun _ => True) (.slice (some ⟨go11, 0, none⟩) A.length ab) aj := (by rw [hw, aN.out]; exact HP12.1); clear HP12; replace B := aM (hp_); replace HB := aM ((by rw [hw]; exact below_set (HB.out) GB11.out : Below w.heap.size w ao)); clear hg hw hp_))
        (try simp only [← D])
        go_roundg k1
        case measure => have := HK1.out; omega
        case rel => exact ⟨(aj), (1), (wrap64 (z + 1)), sI, sI, H', ⟨by have := HK1.out; omega⟩, ⟨by (try simp only [D]); (with_reducible repeat (first | apply Kd.R_alloc | apply Kd.R_drewN | apply Kd.R_drew)); exact B.out⟩, bT0 HB⟩
       ·rw [if_neg Y] at H; have aL := decide_eq_false Y; clear Y; obtain ⟨ap, Q⟩ : ∃ y_ : List Int, y_ = (A.set (z : Int).toNat ((wrap64 ((wrap64 ((wrap64 (rd A z)) - E)) - (wrap64 (rd L z)))) % 4294967296)) := ⟨_, rfl⟩
        first | replace H := rI Q H | rw [← Q] at H
        have aQ := aM Q; clear Q; have H' := aM H; clear H; have F : 0 ≤ (z : Int) := oT aO; have G : z < (A.length : Int) := oT aO; obtain ⟨aa, M, I⟩ := Kd.at_int (rR B).2.2 z F G; cases M; replace F := eq_true F; replace G := eq_true G; have N : 0 ≤ (z : Int) := oT aO; have O : z < (L.length : Int) := oT aO; obtain ⟨aP, af, J⟩ := Kd.at_int aZ.out z N O; cases af; replace J := cX HB J; replace N := eq_true N; replace O := eq_true O; have aq : 0 ≤ (z : Int) := oT aO; have ar : (z : Int) < ((A.length : Int) : Int) := oT aO; obtain ⟨go14, bn, au, av, gl14, cl14, HG14⟩ := Kd.R_form B.out (by omega)
        (first | cases au | (injection au with ea_ en_ ec_; (first | subst ea_ | (injection ea_ with ea_; subst ea_)); subst ec_; clear en_))
        have GB14 := aM av; have GG14 := aM HG14; clear av gl14 HG14
        (first | simp only [add_plain] at I | skip)
        obtain ⟨bf, hf14_0⟩ := Kd.R_celln 0 B.out (z : Int) aq ar; replace aq := eq_true aq; replace ar := eq_true ar; have HP15 := Kd.R_putg B.out (z : Int) ((wrap64 ((wrap64 ((wrap64 (rd A z)) - E)) - (wrap64 (rd L z)))) % 4294967296)
        go_wp2_with (first | ((with_reducible refine gate_store (t := 117) (p := 42) rfl ?_); refine store_event (t := 117) (p := 42) (v := ?vo_w16) (w1 := (wr.setCell ⟨go14, (z : Int).toNat, none⟩ (.int .u32 ((wrap64 ((wrap64 ((wrap64 (rd A z)) - E)) - (wrap64 (rd L z)))) % 4294967296)))) ?hg ?ho ?hn ?hr ?_; (case ho => rfl); (case hg => rfl); (case hn => rfl); (case hr => first | (go_simp; done) | (go_simp; rfl)); intro aw hw; have hg : wr.grownBy aw (some go14) := (by rw [hw]; exact HP15.2); have hp_ : Kd.R (Kd.int .u32) 117 aw w.heap.size (fun _ => True) (.slice (some ⟨go14, 0, none⟩) A.length ab) ap := (by rw [hw, aQ.out]; exact HP15.1); clear HP15; replace B := aM (hp_); replace HB := aM ((by rw [hw]; exact below_set (HB.out) GB14.out : Below w.heap.size w aw)); clear hg hw hp_))
        (try simp only [← D])
        go_roundg k1
        case measure => have := HK1.out; omega
        case rel => exact ⟨(ap), (0), (wrap64 (z + 1)), sI, sI, H', ⟨by have := HK1.out; omega⟩, ⟨by (try simp only [D]); (with_reducible repeat (first | apply Kd.R_alloc | apply Kd.R_drewN | apply Kd.R_drew)); exact B.out⟩, bT0 HB⟩
      ·rw [if_neg c9] at H; have ae := decide_eq_false c9
       (try (have c9b0hl5_1 := ae; rw [D] at c9b0hl5_1))
       clear c9
       by_cases Z : (wrap64 ((wrap64 (rd A z)) - E)) < 0
       ·rw [if_pos Z] at H; have aR := dT Z; clear Z; obtain ⟨ax, U⟩ : ∃ y_ : List Int, y_ = (A.set (z : Int).toNat ((wrap64 ((wrap64 ((wrap64 (rd A z)) - E)) + 4294967296)) % 4294967296)) := ⟨_, rfl⟩
        first | replace H := rI U H | rw [← U] at H
        have aS := aM U; clear U; have H' := aM H; clear H; have F : 0 ≤ (z : Int) := oT aO; have G : z < (A.length : Int) := oT aO; obtain ⟨aa, M, I⟩ := Kd.at_int (rR B).2.2 z F G; cases M; replace F := eq_true F; replace G := eq_true G; have ay : 0 ≤ (z : Int) := oT aO; have az : (z : Int) < ((A.length : Int) : Int) := oT aO; obtain ⟨go18, bo, aA, aB, gl18, cl18, HG18⟩ := Kd.R_form B.out (by omega)
        (first | cases aA | (injection aA with ea_ en_ ec_; (first | subst ea_ | (injection ea_ with ea_; subst ea_)); subst ec_; clear en_))
        have GB18 := aM aB; have GG18 := aM HG18; clear aB gl18 HG18
        (first | simp only [add_plain] at I | skip)
        obtain ⟨bg, hf18_0⟩ := Kd.R_celln 0 B.out (z : Int) ay az; replace ay := eq_true ay; replace az := eq_true az; have HP19 := Kd.R_putg B.out (z : Int) ((wrap64 ((wrap64 ((wrap64 (rd A z)) - E)) + 4294967296)) % 4294967296)
        go_wp2_with (first | ((with_reducible refine gate_store (t := 117) (p := 42) rfl ?_); refine store_event (t := 117) (p := 42) (v := ?vo_w20) (w1 := (wr.setCell ⟨go18, (z : Int).toNat, none⟩ (.int .u32 ((wrap64 ((wrap64 ((wrap64 (rd A z)) - E)) + 4294967296)) % 4294967296)))) ?hg ?ho ?hn ?hr ?_; (case ho => rfl); (case hg => rfl); (case hn => rfl); (case hr => first | (go_simp; done) | (go_simp; rfl)); intro aC hw; have hg : wr.grownBy aC (some go18) := (by rw [hw]; exact HP19.2); have hp_ : Kd.R (Kd.int .u32) 117 aC w.heap.size (fun _ => True) (.slice (some ⟨go18, 0, none⟩) A.length ab) ax := (by rw [hw, aS.out]; exact HP19.1); clear HP19; replace B := aM (hp_); replace HB := aM ((by rw [hw]; exact below_set (HB.out) GB18.out : Below w.heap.size w aC)); clear hg hw hp_))
        (try simp only [← D])
        go_roundg k1
        case measure => have := HK1.out; omega
        case rel => exact ⟨(ax), (1), (wrap64 (z + 1)), sI, sI, H', ⟨by have := HK1.out; omega⟩, ⟨by (try simp only [D]); (with_reducible repeat (first | apply Kd.R_alloc | apply Kd.R_drewN | apply Kd.R_drew)); exact B.out⟩, bT0 HB⟩
       ·rw [if_neg Z] at H; have aR := decide_eq_false Z; clear Z; obtain ⟨aD, V⟩ : ∃ y_ : List Int, y_ = (A.set (z : Int).toNat ((wrap64 ((wrap64 (rd A z)) - E)) % 4294967296)) := ⟨_, rfl⟩
        first | replace H := rI V H | rw [← V] at H
        have aT := aM V; clear V; have H' := aM H; clear H; have F : 0 ≤ (z : Int) := oT aO; have G : z < (A.length : Int) := oT aO; obtain ⟨aa, M, I⟩ := Kd.at_int (rR B).2.2 z F G; cases M; replace F := eq_true F; replace G := eq_true G; have aE : 0 ≤ (z : Int) := oT aO; have aF : (z : Int) < ((A.length : Int) : Int) := oT aO; obtain ⟨go21, bp, aG, aH, gl21, cl21, HG21⟩ := Kd.R_form B.out (by omega)
        (first | cases aG | (injection aG with ea_ en_ ec_; (first | subst ea_ | (injection ea_ with ea_; subst ea_)); subst ec_; clear en_))
        have GB21 := aM aH; have GG21 := aM HG21; clear aH gl21 HG21
        (first | simp only [add_plain] at I | skip)
        obtain ⟨bh, hf21_0⟩ := Kd.R_celln 0 B.out (z : Int) aE aF; replace aE := eq_true aE; replace aF := eq_true aF; have HP22 := Kd.R_putg B.out (z : Int) ((wrap64 ((wrap64 (rd A z)) - E)) % 4294967296)
        go_wp2_with (first | ((with_reducible refine gate_store (t := 117) (p := 42) rfl ?_); refine store_event (t := 117) (p := 42) (v := ?vo_w23) (w1 := (wr.setCell ⟨go21, (z : Int).toNat, none⟩ (.int .u32 ((wrap64 ((wrap64 (rd A z)) - E)) % 4294967296)))) ?hg ?ho ?hn ?hr ?_; (case ho => rfl); (case hg => rfl); (case hn => rfl); (case hr => first | (go_simp; done) | (go_simp; rfl)); intro aI hw; have hg : wr.grownBy aI (some go21) := (by rw [hw]; exact HP22.2); have hp_ : Kd.R (Kd.int .u32) 117 aI w.heap.size (fun _ => True) (.slice (some ⟨go21, 0, none⟩) A.length ab) aD := (by rw [hw, aT.out]; exact HP22.1); clear HP22; replace B := aM (hp_); replace HB := aM ((by rw [hw]; exact below_set (HB.out) GB21.out : Below w.heap.size w aI)); clear hg hw hp_))
        (try simp only [← D])
        go_roundg k1
        case measure => have := HK1.out; omega
        case rel => exact ⟨(aD), (0), (wrap64 (z + 1)), sI, sI, H', ⟨by have := HK1.out; omega⟩, ⟨by (try simp only [D]); (with_reducible repeat (first | apply Kd.R_alloc | apply Kd.R_drewN | apply Kd.R_drew)); exact B.out⟩, bT0 HB⟩
     ·exact nX c8 H
    ·exact nX c7 H
   ·rw [if_neg c6] at H; have ad := decide_eq_false c6
    (try (have c6b0hl5_1 := ad; rw [D] at c6b0hl5_1))
    clear c6; obtain rfl := Option.some.inj H
    go_wp2
    go_ret
    exact ⟨_, eW, rO B.out, bO HB.out⟩

end Go.Proofs.Ythgoonohpfoagaa.X
