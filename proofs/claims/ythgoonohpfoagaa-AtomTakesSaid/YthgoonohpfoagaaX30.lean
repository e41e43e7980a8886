/- A type's cells, as the program lays them; no condition. -/
import Derived.Test.YthgoonohpfoagaaX0
import Derived.Test.YthgoonohpfoagaaX1
import Derived.Test.YthgoonohpfoagaaX11
namespace Go.Proofs.Ythgoonohpfoagaa.X
theorem info117 : (Try.prog.info? 117).map (fun i => (i.zero, i.size, i.bytes)) = some (some (.int .u32 0), 1, 4) := by kernel_rfl
end Go.Proofs.Ythgoonohpfoagaa.X
namespace Go.Proofs.Ythgoonohpfoagaa.X
open Go.RowKit Go.Proofs.YthgoonohpfoagaaW.PrintWords Go.Proofs.YthgoonohpfoagaaW.PrintLast Go.Proofs.YthgoonohpfoagaaW.PrintMore
attribute [local go_sem] max2_int min2_int max_two min_two max_three min_three max_four min_four
set_option linter.unusedVariables false
set_option linter.unusedSimpArgs false
set_option maxHeartbeats 8000000
set_option maxRecDepth 100000

/-! ### table_tracks: function 84 -/
def table_tracks.f (k : Nat) (l0 : List ByteArray) (a1 : Int) : Option (Bool) := if (l0.length : Int) ≤ 6 then (if a1 ≥ 1 then (if a1 ≤ 256 then ((glyph_Rises.f k l0).bind fun t252 => (some t252)) else (some false)) else (some false)) else (some false)
theorem table_tracks.mono : ∀ a0 a1 k, LeO (table_tracks.f k a0 a1) (table_tracks.f (k + 1) a0 a1) := by
 intro a0 a1 k
 unfold table_tracks.f
 repeat' first | (with_reducible first | exact glyph_Rises.mono _ _ | exact lA | apply lI | refine lB ?_ fun _ => ?_) | exact lN _ | apply lI | refine lB ?_ fun _ => ?_
theorem table_tracks.calls (k : Nat) (P : Option Addr) (Q : Nat) (z : List ByteArray) (E : Int) (r : Bool) (w : World) (F : Kd.C Kd.string w P z.length z) (G : z.length ≤ Q) (h : table_tracks.f k z E = some r) :
  Calls Try.prog 84 #[.slice P z.length Q, .int .i64 E] w fun e w' => e = .returned (.bool r) ∧ Below w.heap.size w w' := by
 have R := aM F; have U := aM G; clear F G; have HB := aM (Below.refl w.heap.size w); rw [table_tracks.f] at h; have H := h; clear h
 by_cases A : (z.length : Int) ≤ 6
 ·rw [if_pos A] at H; have J := dT A; have L : decide (z.length ≤ 6) = true := dT (by omega); clear A
  by_cases B : E ≥ 1
  ·rw [if_pos B] at H; have M := dT B; clear B
   by_cases D : E ≤ 256
   ·rw [if_pos D] at H; have N := dT D; clear D; replace H := Option.bind_eq_some_iff.mp H; obtain ⟨O, I, H⟩ := H; have V := aM I; clear I; obtain rfl := Option.some.inj H
    go_enter Try.func84, Try.ntmps84
    go_wp2_with (first | (go_at_call 47; (with_reducible refine (glyph_Rises.calls k _ _ z O _ ?s1 U.out V.out).mono ?_); (case s1 => exact cO R.out); rintro e W ⟨rfl, hb⟩; replace HB := hS0 HB hb; (try clear hb)))
    go_ret
    exact ⟨eW, bO HB.out⟩
   ·rw [if_neg D] at H; have N := decide_eq_false D; clear D; obtain rfl := Option.some.inj H
    go_enter Try.func84, Try.ntmps84
    go_wp2
    go_ret
    exact ⟨eW, bO HB.out⟩
  ·rw [if_neg B] at H; have M := decide_eq_false B; clear B; obtain rfl := Option.some.inj H
   go_enter Try.func84, Try.ntmps84
   go_wp2
   go_ret
   exact ⟨eW, bO HB.out⟩
 ·rw [if_neg A] at H; have J := decide_eq_false A; have L : decide (z.length ≤ 6) = false := decide_eq_false (by omega); clear A; obtain rfl := Option.some.inj H
  go_enter Try.func84, Try.ntmps84
  go_wp2
  go_ret
  exact ⟨eW, bO HB.out⟩

/-! ### slices_Min_int_int: function 85 -/
def slices_Min_int_int.l0 : Nat → List Int → Int → Int → Option (Int)
 | 0, _, _, _ => none
 | k + 1, x0, x3, x4 => if x4 < (x0.length : Int) then (if 0 ≤ x4 then (slices_Min_int_int.l0 k x0 (mn x3 (rd x0 x4)) (wrap64 (x4 + 1))) else (none)) else (some x3)
def slices_Min_int_int.f (k : Nat) (l0 : List Int) : Option (Int) := if (l0.length : Int) < 1 then (none) else (if 0 < (l0.length : Int) then (slices_Min_int_int.l0 k l0 (rd l0 0) 1) else (none))
theorem slices_Min_int_int.mono_l : ∀ k, (∀ y0 y1 y2, LeO (slices_Min_int_int.l0 k y0 y1 y2) (slices_Min_int_int.l0 (k + 1) y0 y1 y2))
 | 0 => fun _ _ _ r h => by simp [slices_Min_int_int.l0] at h
 | k + 1 => by
  have ih0 := slices_Min_int_int.mono_l k
  ·intro y0 y1 y2
   unfold slices_Min_int_int.l0
   repeat' first | (with_reducible first | exact ih0 _ _ _ | exact lA | apply lI | refine lB ?_ fun _ => ?_) | exact lN _ | apply lI | refine lB ?_ fun _ => ?_
theorem slices_Min_int_int.mono : ∀ a0 k, LeO (slices_Min_int_int.f k a0) (slices_Min_int_int.f (k + 1) a0) := by
 intro a0 k; have ih0 := slices_Min_int_int.mono_l k
 unfold slices_Min_int_int.f
 repeat' first | (with_reducible first | exact ih0 _ _ _ | exact lA | apply lI | refine lB ?_ fun _ => ?_) | exact lN _ | apply lI | refine lB ?_ fun _ => ?_
theorem slices_Min_int_int.calls (k : Nat) (A0 : Option Addr) (c0 : Nat) (A : List Int) (r : Int) (w : World) (U : Kd.C (Kd.int .i64) w A0 A.length A) (V : A.length ≤ c0) (h : slices_Min_int_int.f k A = some r) :
  Calls Try.prog 85 #[.slice A0 A.length c0] w fun e w' => e = .returned (.int .i64 r) ∧ Below w.heap.size w w' := by
 have W := aM U; have am := aM V; clear U V; have HB := aM (Below.refl w.heap.size w); rw [slices_Min_int_int.f] at h; have H := h; clear h
 by_cases N : (A.length : Int) < 1
 ·rw [if_pos N] at H; exact absurd H (by simp)
 ·rw [if_neg N] at H; have af := decide_eq_false N; have ag : decide (A.length < 1) = false := decide_eq_false (by omega); clear N
  by_cases O : 0 < (A.length : Int)
  ·rw [if_pos O] at H; have ah := dT O; have ai : decide (0 < A.length) = true := dT (by omega); clear O; have H' := aM H; clear H; have G : 0 ≤ (0 : Int) := (by omega); have I : 0 < (A.length : Int) := oT aO; obtain ⟨P, Z, D⟩ := Kd.at_int W.out 0 G I; cases Z; have qi253 : (0 < A.length) = True := eq_true (by omega)
   (try rw [show ((0 : Int)).toNat = 0 from rfl] at D)
   (try rw [Addr.add_zero'] at D)
   replace G := eq_true G; replace I := eq_true I
   go_enter Try.func85, Try.ntmps85
   go_wp2
   go_loopg [3, 4] k (fun kq v3 v4 w' => ∃ (B : Int) (z : Int), v3 = .int .i64 B ∧ v4 = .int .i64 z ∧ Aside0 (slices_Min_int_int.l0 kq A B z = some r) ∧ Aside0 (kq ≤ k) ∧ BA w w')
   case atStart => exact ⟨(rd A 0), (1), sI, sI, H', ⟨Nat.le_refl _⟩, bT0 HB⟩
   case round =>
    clear H'
    obtain ⟨B, z, rfl, rfl, HA, HK1, HB⟩ := hrel; cases gk with
    | zero => exact absurd HA.out (by simp [slices_Min_int_int.l0])
    | succ k1 =>
     have H := HA.out; clear HA; simp only [slices_Min_int_int.l0] at H
     by_cases M : z < (A.length : Int)
     ·rw [if_pos M] at H; have aa := dT M; clear M
      by_cases Q : 0 ≤ z
      ·rw [if_pos Q] at H; have al := dT Q; clear Q; obtain ⟨Y, F⟩ : ∃ j_ : Int, (mn B (rd A z)) = j_ := ⟨_, rfl⟩
       first | rw [F] at H | simp only [F] at H
       have ae : (if (rd A z) < B then (rd A z) else B) = Y := F; have H' := aM H; clear H; have J : 0 ≤ (z : Int) := oT aO; have L : z < (A.length : Int) := oT aO; obtain ⟨R, ab, E⟩ := Kd.at_int W.out z J L; have he_ : P = R := (by injection ab); subst he_; replace E := cX HB E; replace J := eq_true J; replace L := eq_true L
       go_wp2
       go_roundg k1
       case measure => have := HK1.out; omega
       case rel => exact ⟨(Y), (wrap64 (z + 1)), (by first | rfl | (simp; done) | (simp only [← F] <;> (first | rfl | simp)) | (simp [*]; done)), sI, H', ⟨by have := HK1.out; omega⟩, bT0 HB⟩
      ·exact nX Q H
     ·rw [if_neg M] at H; have aa := decide_eq_false M; clear M; obtain rfl := Option.some.inj H
      go_wp2
      go_ret
      exact ⟨eW, bO HB.out⟩
  ·exact nX O H

end Go.Proofs.Ythgoonohpfoagaa.X
namespace Go.Proofs.Ythgoonohpfoagaa.X
open Go.RowKit Go.Proofs.YthgoonohpfoagaaW.PrintWords Go.Proofs.YthgoonohpfoagaaW.PrintLast Go.Proofs.YthgoonohpfoagaaW.PrintMore
attribute [local go_sem] max2_int min2_int max_two min_two max_three min_three max_four min_four
set_option linter.unusedVariables false
set_option linter.unusedSimpArgs false
set_option maxHeartbeats 8000000
set_option maxRecDepth 100000

/-! ### slices_Max_int_int: function 86 -/
def slices_Max_int_int.l0 : Nat → List Int → Int → Int → Option (Int)
 | 0, _, _, _ => none
 | k + 1, x0, x3, x4 => if x4 < (x0.length : Int) then (if 0 ≤ x4 then (slices_Max_int_int.l0 k x0 (mx x3 (rd x0 x4)) (wrap64 (x4 + 1))) else (none)) else (some x3)
def slices_Max_int_int.f (k : Nat) (l0 : List Int) : Option (Int) := if (l0.length : Int) < 1 then (none) else (if 0 < (l0.length : Int) then (slices_Max_int_int.l0 k l0 (rd l0 0) 1) else (none))
theorem slices_Max_int_int.mono_l : ∀ k, (∀ y0 y1 y2, LeO (slices_Max_int_int.l0 k y0 y1 y2) (slices_Max_int_int.l0 (k + 1) y0 y1 y2))
 | 0 => fun _ _ _ r h => by simp [slices_Max_int_int.l0] at h
 | k + 1 => by
  have ih0 := slices_Max_int_int.mono_l k
  ·intro y0 y1 y2
   unfold slices_Max_int_int.l0
   repeat' first | (with_reducible first | exact ih0 _ _ _ | exact lA | apply lI | refine lB ?_ fun _ => ?_) | exact lN _ | apply lI | refine lB ?_ fun _ => ?_
theorem slices_Max_int_int.mono : ∀ a0 k, LeO (slices_Max_int_int.f k a0) (slices_Max_int_int.f (k + 1) a0) := by
 intro a0 k; have ih0 := slices_Max_int_int.mono_l k
 unfold slices_Max_int_int.f
 repeat' first | (with_reducible first | exact ih0 _ _ _ | exact lA | apply lI | refine lB ?_ fun _ => ?_) | exact lN _ | apply lI | refine lB ?_ fun _ => ?_
theorem slices_Max_int_int.calls (k : Nat) (A0 : Option Addr) (c0 : Nat) (A : List Int) (r : Int) (w : World) (U : Kd.C (Kd.int .i64) w A0 A.length A) (V : A.length ≤ c0) (h : slices_Max_int_int.f k A = some r) :
  Calls Try.prog 86 #[.slice A0 A.length c0] w fun e w' => e = .returned (.int .i64 r) ∧ Below w.heap.size w w' := by
 have W := aM U; have am := aM V; clear U V; have HB := aM (Below.refl w.heap.size w); rw [slices_Max_int_int.f] at h; have H := h; clear h
 by_cases N : (A.length : Int) < 1
 ·rw [if_pos N] at H; exact absurd H (by simp)
 ·rw [if_neg N] at H; have af := decide_eq_false N; have ag : decide (A.length < 1) = false := decide_eq_false (by omega); clear N
  by_cases O : 0 < (A.length : Int)
  ·rw [if_pos O] at H; have ah := dT O; have ai : decide (0 < A.length) = true := dT (by omega); clear O; have H' := aM H; clear H; have G : 0 ≤ (0 : Int) := (by omega); have I : 0 < (A.length : Int) := oT aO; obtain ⟨P, Z, D⟩ := Kd.at_int W.out 0 G I; cases Z; have qi255 : (0 < A.length) = True := eq_true (by omega)
   (try rw [show ((0 : Int)).toNat = 0 from rfl] at D)
   (try rw [Addr.add_zero'] at D)
   replace G := eq_true G; replace I := eq_true I
   go_enter Try.func86, Try.ntmps86
   go_wp2
   go_loopg [3, 4] k (fun kq v3 v4 w' => ∃ (B : Int) (z : Int), v3 = .int .i64 B ∧ v4 = .int .i64 z ∧ Aside0 (slices_Max_int_int.l0 kq A B z = some r) ∧ Aside0 (kq ≤ k) ∧ BA w w')
   case atStart => exact ⟨(rd A 0), (1), sI, sI, H', ⟨Nat.le_refl _⟩, bT0 HB⟩
   case round =>
    clear H'
    obtain ⟨B, z, rfl, rfl, HA, HK1, HB⟩ := hrel; cases gk with
    | zero => exact absurd HA.out (by simp [slices_Max_int_int.l0])
    | succ k1 =>
     have H := HA.out; clear HA; simp only [slices_Max_int_int.l0] at H
     by_cases M : z < (A.length : Int)
     ·rw [if_pos M] at H; have aa := dT M; clear M
      by_cases Q : 0 ≤ z
      ·rw [if_pos Q] at H; have al := dT Q; clear Q; obtain ⟨Y, F⟩ : ∃ j_ : Int, (mx B (rd A z)) = j_ := ⟨_, rfl⟩
       first | rw [F] at H | simp only [F] at H
       have ae : (if B < (rd A z) then (rd A z) else B) = Y := F; have H' := aM H; clear H; have J : 0 ≤ (z : Int) := oT aO; have L : z < (A.length : Int) := oT aO; obtain ⟨R, ab, E⟩ := Kd.at_int W.out z J L; have he_ : P = R := (by injection ab); subst he_; replace E := cX HB E; replace J := eq_true J; replace L := eq_true L
       go_wp2
       go_roundg k1
       case measure => have := HK1.out; omega
       case rel => exact ⟨(Y), (wrap64 (z + 1)), (by first | rfl | (simp; done) | (simp only [← F] <;> (first | rfl | simp)) | (simp [*]; done)), sI, H', ⟨by have := HK1.out; omega⟩, bT0 HB⟩
      ·exact nX Q H
     ·rw [if_neg M] at H; have aa := decide_eq_false M; clear M; obtain rfl := Option.some.inj H
      go_wp2
      go_ret
      exact ⟨eW, bO HB.out⟩
  ·exact nX O H

end Go.Proofs.Ythgoonohpfoagaa.X
namespace Go.Proofs.Ythgoonohpfoagaa.X
open Go.RowKit Go.Proofs.YthgoonohpfoagaaW.PrintWords Go.Proofs.YthgoonohpfoagaaW.PrintLast Go.Proofs.YthgoonohpfoagaaW.PrintMore
attribute [local go_sem] max2_int min2_int max_two min_two max_three min_three max_four min_four
set_option linter.unusedVariables false
set_option linter.unusedSimpArgs false
set_option maxHeartbeats 8000000
set_option maxRecDepth 100000

/-! ### table_Right: function 61 -/
mutual
def table_Right.j0 : Nat → Int → Bool → List ByteArray → List Bool → List (List Int) → Option (Int)
 | 0, _, _, _, _, _ => none
 | k + 1, x3, x20, x258000, x258001, x258002 => if x20 = true then (some 3) else (table_Right.l0 k x3 x258002 (x258002.length : Int) 0 x258000 x258001 x258002)
def table_Right.l0 : Nat → Int → List (List Int) → Int → Int → List ByteArray → List Bool → List (List Int) → Option (Int)
 | 0, _, _, _, _, _, _, _ => none
 | k + 1, x3, x22, x23, x24, x258000, x258001, x258002 => if x24 < x23 then (if 0 ≤ x24 then (if x24 < (x22.length : Int) then (if ((rd_L3 x22 x24).length : Int) = (shl .i64 1 (x258000.length : Int)) then ((slices_Min_int_int.f k (rd_L3 x22 x24)).bind fun t260 => (if t260 < 0 then (some 3) else ((slices_Max_int_int.f k (rd_L3 x22 x24)).bind fun t261 => (if t261 ≥ x3 then (some 3) else (table_Right.l0 k x3 x22 x23 (wrap64 (x24 + 1)) x258000 x258001 x258002))))) else (some 3)) else (none)) else (none)) else (some 0)
end
def table_Right.f (k : Nat) (l0_0 : List ByteArray) (l0_1 : List Bool) (l0_2 : List (List Int)) : Option (Int) := (table_tracks.f k l0_0 (l0_1.length : Int)).bind fun t258 => (if t258 = true then (table_Right.j0 k (l0_1.length : Int) ((l0_2.length : Int) != (l0_1.length : Int)) l0_0 l0_1 l0_2) else (table_Right.j0 k (l0_1.length : Int) true l0_0 l0_1 l0_2))
theorem table_Right.mono_l : ∀ k, (∀ y0 y1 y2 y3 y4, LeO (table_Right.j0 k y0 y1 y2 y3 y4) (table_Right.j0 (k + 1) y0 y1 y2 y3 y4)) ∧ (∀ y0 y1 y2 y3 y4 y5 y6, LeO (table_Right.l0 k y0 y1 y2 y3 y4 y5 y6) (table_Right.l0 (k + 1) y0 y1 y2 y3 y4 y5 y6))
 | 0 => ⟨fun _ _ _ _ _ r h => by simp [table_Right.j0] at h, fun _ _ _ _ _ _ _ r h => by simp [table_Right.l0] at h⟩
 | k + 1 => by
  obtain ⟨ih0, ih1⟩ := table_Right.mono_l k; refine ⟨?_, ?_⟩
  ·intro y0 y1 y2 y3 y4
   unfold table_Right.j0
   repeat' first | (with_reducible first | exact ih0 _ _ _ _ _ | exact ih1 _ _ _ _ _ _ _ | exact slices_Max_int_int.mono _ _ | exact slices_Min_int_int.mono _ _ | exact table_tracks.mono _ _ _ | exact lA | apply lI | refine lB ?_ fun _ => ?_) | exact lN _ | apply lI | refine lB ?_ fun _ => ?_
  ·intro y0 y1 y2 y3 y4 y5 y6
   unfold table_Right.l0
   repeat' first | (with_reducible first | exact ih0 _ _ _ _ _ | exact ih1 _ _ _ _ _ _ _ | exact slices_Max_int_int.mono _ _ | exact slices_Min_int_int.mono _ _ | exact table_tracks.mono _ _ _ | exact lA | apply lI | refine lB ?_ fun _ => ?_) | exact lN _ | apply lI | refine lB ?_ fun _ => ?_
theorem table_Right.mono : ∀ a0 a1 a2 k, LeO (table_Right.f k a0 a1 a2) (table_Right.f (k + 1) a0 a1 a2) := by
 intro a0 a1 a2 k; obtain ⟨ih0, ih1⟩ := table_Right.mono_l k
 unfold table_Right.f
 repeat' first | (with_reducible first | exact ih0 _ _ _ _ _ | exact ih1 _ _ _ _ _ _ _ | exact slices_Max_int_int.mono _ _ | exact slices_Min_int_int.mono _ _ | exact table_tracks.mono _ _ _ | exact lA | apply lI | refine lB ?_ fun _ => ?_) | exact lN _ | apply lI | refine lB ?_ fun _ => ?_
theorem table_Right.calls (k : Nat) (U : Option Addr) (V : Nat) (B : List ByteArray) (aa : Option Addr) (ab : Nat) (J : List Bool) (ac : Option Addr) (ad : Nat) (D : List (List Int)) (r : Int) (w : World) (ao : Kd.C Kd.string w U B.length B) (ap : B.length ≤ V) (aq : Kd.C Kd.bool w aa J.length J) (ar : J.length ≤ ab) (au : Kd.C (Kd.slice 3 (Kd.int .i64)) w ac D.length D) (av : D.length ≤ ad) (h : table_Right.f k B J D = some r) :
  Calls Try.prog 61 #[.agg #[.slice U B.length V, .slice aa J.length ab, .slice ac D.length ad]] w fun e w' => e = .returned (.int .i64 r) ∧ Below w.heap.size w w' := by
 have hu31 := Try.underlying31; have aw := aM ao; have ax := aM ap; clear ao ap; have bT := aM aq; have bU := aM ar; clear aq ar; have Y := aM au; have bV := aM av; clear au av; have HB := aM (Below.refl w.heap.size w); rw [table_Right.f] at h; have H := h; clear h; have aC := aM H; clear H
 go_enter Try.func61, Try.ntmps61
 go_upto_region 2 with (first | ((with_reducible refine gate_dst (N := 1) rfl ?_); (try (refine gate_guard (by rfl) ?_; dsimp only)); refine be_ (cs := #[.slice U B.length V, .slice aa J.length ab, .slice ac D.length ad]) (t := 31) ?_; intro ay hg w3 hbox hb; have z := aM (hbox); have bW := gE hg (bP0 HB); have E := gE hg (bP0 HB); replace HB := hS0 HB hb; clear hb hbox hg; obtain ⟨bx, bz, bA, bB, bC, bD⟩ := bG3 z))
 (try simp only [Act.put, sA, sB, sC])
 go_cut [20] (fun bE wc => ∃ (kq : Nat) (Z : Bool), bE = .bool Z ∧ Aside0 (table_Right.j0 kq (J.length : Int) Z B J D = some r) ∧ Aside0 (kq ≤ k) ∧ Aside0 (wc.heap[ay]? = some (.cells #[(.slice U B.length V), (.slice aa J.length ab), (.slice ac D.length ad)] 31 (0, 0))) ∧ BA w wc)
 case first =>
  have H := aC.out; clear aC; replace H := Option.bind_eq_some_iff.mp H; obtain ⟨aR, aN, H⟩ := H; have A5 := aM aN; clear aN
  by_cases c6 : aR = true
  ·subst c6
   rw [if_pos rfl] at H; have H' := aM H; clear H; obtain ⟨bG, bH, bI, bJ, bK, bL⟩ := bG3 z
   go_wp2_with (first | ((with_reducible refine gate_callee (f := 84) rfl ?_); refine gL_ (some 12) Try.func84 #[.slice U B.length V, .int .i64 (J.length : Int)] ?_; (with_reducible refine (table_tracks.calls k _ _ B (J.length : Int) true _ ?s1 ax.out A5.out).mono ?_); (case s1 => exact cB aw HB); rintro e w8 ⟨rfl, hb⟩; refine ⟨_, rfl, ?_⟩; replace z := kB z hb; replace HB := hS1 HB E hb; (try clear hb); obtain ⟨bM, bN, bO, bP, bQ, bR⟩ := bG3 z))
   go_meet
   case rel => exact ⟨_, (((D.length : Int) != (J.length : Int))), sI, H', ⟨by first | omega | exact Nat.le_refl _⟩, kQ z, bT1 HB E⟩
  ·replace c6 := Bool.eq_false_iff.mpr c6; subst c6
   rw [if_neg nF] at H; have H' := aM H; clear H; obtain ⟨aS, aT, aU, aV, aW, aX⟩ := bG3 z
   go_wp2_with (first | ((with_reducible refine gate_callee (f := 84) rfl ?_); refine gL_ (some 12) Try.func84 #[.slice U B.length V, .int .i64 (J.length : Int)] ?_; (with_reducible refine (table_tracks.calls k _ _ B (J.length : Int) false _ ?s1 ax.out A5.out).mono ?_); (case s1 => exact cB aw HB); rintro e bZ ⟨rfl, hb⟩; refine ⟨_, rfl, ?_⟩; replace z := kB z hb; replace HB := hS1 HB E hb; (try clear hb)))
   go_meet
   case rel => exact ⟨_, (true), sI, H', ⟨by first | omega | exact Nat.le_refl _⟩, kQ z, bT1 HB E⟩
 case rest =>
  clear aC
  obtain ⟨kq, Z, rfl, HA, HJ1, z, HB⟩ := hcut; cases kq with
  | zero => exact absurd HA.out (by simp [table_Right.j0])
  | succ aP =>
   have H := HA.out; clear HA; simp only [table_Right.j0] at H
   by_cases az : Z = true
   ·subst az
    rw [if_pos rfl] at H; obtain rfl := Option.some.inj H
    go_wp2
    go_ret
    exact ⟨eW, bS1 HB.out E.out⟩
   ·replace az := Bool.eq_false_iff.mpr az; subst az
    rw [if_neg nF] at H; have H' := aM H; clear H; obtain ⟨aY, aZ, a3, a4, a5, a6⟩ := bG3 z
    go_wp2
    go_loopg [24] aP (fun kq bS w' => ∃ (A : Int), bS = .int .i64 A ∧ Aside0 (table_Right.l0 kq (J.length : Int) D (D.length : Int) A B J D = some r) ∧ Aside0 (kq ≤ aP) ∧ Aside0 (w'.heap[ay]? = some (.cells #[(.slice U B.length V), (.slice aa J.length ab), (.slice ac D.length ad)] 31 (0, 0))) ∧ BA w w')
    case atStart => exact ⟨(0), sI, H', ⟨Nat.le_refl _⟩, kQ z, bT1 HB E⟩
    case round =>
     clear H'
     obtain ⟨A, rfl, HA, HK2, z, HB⟩ := hrel; cases gk with
     | zero => exact absurd HA.out (by simp [table_Right.l0])
     | succ k2 =>
      have H := HA.out; clear HA; simp only [table_Right.l0] at H
      by_cases ah : A < (D.length : Int)
      ·rw [if_pos ah] at H; have aH := dT ah; clear ah
       by_cases aA : 0 ≤ A
       ·rw [if_pos aA] at H; have bX := dT aA; clear aA
        by_cases aB : A < (D.length : Int)
        ·rw [if_pos aB] at H; have bY := dT aB; clear aB; obtain ⟨Q, R⟩ : ∃ j_ : Int, (shl .i64 1 (B.length : Int)) = j_ := ⟨_, rfl⟩
         first | rw [R] at H | simp only [R] at H
         have ae : (IntKind.i64.wrap (1 * 2 ^ min (B.length : Int).toNat 64)) = Q := R; have hji17z : (B.length : Int) ≤ 64 → (IntKind.i64.wrap (1 * 2 ^ (B.length : Int).toNat)) = Q := shl_small R; have hji17p : (IntKind.i64.wrap (1 * 2 ^ min B.length 64)) = Q := ae; have hji17q : (B.length : Int) ≤ 64 → (IntKind.i64.wrap (1 * 2 ^ B.length)) = Q := hji17z
         have hji17r : (IntKind.i64.wrap (2 ^ min B.length 64)) = Q := by have h_ := hji17p; rw [Int.one_mul] at h_; exact h_
         have hji17s : (B.length : Int) ≤ 64 → (IntKind.i64.wrap (2 ^ B.length)) = Q := fun hle_ => by have h_ := hji17q hle_; rw [Int.one_mul] at h_; exact h_
         have hji17u : (IntKind.i64.wrap (2 ^ min (B.length : Int).toNat 64)) = Q := by have h_ := ae; rw [Int.one_mul] at h_; exact h_
         have hji17v : (B.length : Int) ≤ 64 → (IntKind.i64.wrap (2 ^ (B.length : Int).toNat)) = Q := fun hle_ => by have h_ := hji17z hle_; rw [Int.one_mul] at h_; exact h_
         have hji17y : (wrap64 (1 * 2 ^ min (B.length : Int).toNat 64)) = Q := (i64_w _).symm.trans ae
         have hji17x : (B.length : Int) ≤ 64 → (wrap64 (1 * 2 ^ (B.length : Int).toNat)) = Q := fun h_ => (i64_w _).symm.trans (hji17z h_)
         by_cases am : ((rd_L3 D A).length : Int) = (Q)
         ·rw [if_pos am] at H; obtain ⟨aI, aJ⟩ := bq am; clear am; replace H := Option.bind_eq_some_iff.mp H; obtain ⟨ak, aD, H⟩ := H; have aE := aM aD; clear aD
          by_cases ai : ak < 0
          ·rw [if_pos ai] at H; have aK := dT ai; clear ai; obtain rfl := Option.some.inj H; have L : 0 ≤ (A : Int) := oT aO; have M : A < (D.length : Int) := oT aO; obtain ⟨al, af, ag, W, F, G, I⟩ := at_L3 Y.out A L M; cases W; replace F := cX HB F; have O := aM I; have P := aM G; clear I G; replace L := eq_true L; replace M := eq_true M; obtain ⟨a7, a8, a9, ba, bb, bc⟩ := bG3 z
           go_wp2_with (first | (go_at_call 85; (with_reducible refine (slices_Min_int_int.calls k2 _ _ (rd_L3 D A) ak _ ?s1 P.out aE.out).mono ?_); (case s1 => exact cB O HB); rintro e b0 ⟨rfl, hb⟩; replace z := kB z hb; replace HB := hS1 HB E hb; (try clear hb)))
           go_ret
           exact ⟨by first | rfl | (simp [errW_none, errW_some] <;> rfl) | (simp only [← R]; first | rfl | (simp [errW_none, errW_some] <;> rfl)) | (simp [*, errW_none, errW_some] <;> rfl), bS1 HB.out E.out⟩
          ·rw [if_neg ai] at H; have aK := decide_eq_false ai; clear ai; replace H := Option.bind_eq_some_iff.mp H; obtain ⟨an, aF, H⟩ := H; have aQ := aM aF; clear aF
           by_cases aj : an ≥ (J.length : Int)
           ·rw [if_pos aj] at H; have aL := dT aj; clear aj; obtain rfl := Option.some.inj H; have L : 0 ≤ (A : Int) := oT aO; have M : A < (D.length : Int) := oT aO; obtain ⟨al, af, ag, W, F, G, I⟩ := at_L3 Y.out A L M; cases W; replace F := cX HB F; have O := aM I; have P := aM G; clear I G; replace L := eq_true L; replace M := eq_true M; obtain ⟨bd, be, bf, bg, bh, bi⟩ := bG3 z
            go_wp2_with (first | (go_at_call 85; (with_reducible refine (slices_Min_int_int.calls k2 _ _ (rd_L3 D A) ak _ ?s1 P.out aE.out).mono ?_); (case s1 => exact cB O HB); rintro e b1 ⟨rfl, hb⟩; replace z := kB z hb; replace HB := hS1 HB E hb; (try clear hb)) | (go_at_call 86; (with_reducible refine (slices_Max_int_int.calls k2 _ _ (rd_L3 D A) an _ ?s1 P.out aQ.out).mono ?_); (case s1 => exact cB O HB); rintro e b2 ⟨rfl, hb⟩; replace z := kB z hb; replace HB := hS1 HB E hb; (try clear hb)))
            go_ret
            exact ⟨by first | rfl | (simp [errW_none, errW_some] <;> rfl) | (simp only [← R]; first | rfl | (simp [errW_none, errW_some] <;> rfl)) | (simp [*, errW_none, errW_some] <;> rfl), bS1 HB.out E.out⟩
           ·rw [if_neg aj] at H; have aL := decide_eq_false aj; clear aj; have H' := aM H; clear H; have L : 0 ≤ (A : Int) := oT aO; have M : A < (D.length : Int) := oT aO; obtain ⟨al, af, ag, W, F, G, I⟩ := at_L3 Y.out A L M; cases W; replace F := cX HB F; have O := aM I; have P := aM G; clear I G; replace L := eq_true L; replace M := eq_true M; obtain ⟨bj, bk, bl, bm, bo, bp⟩ := bG3 z
            go_wp2_with (first | (go_at_call 85; (with_reducible refine (slices_Min_int_int.calls k2 _ _ (rd_L3 D A) ak _ ?s1 P.out aE.out).mono ?_); (case s1 => exact cB O HB); rintro e b3 ⟨rfl, hb⟩; replace z := kB z hb; replace HB := hS1 HB E hb; (try clear hb)) | (go_at_call 86; (with_reducible refine (slices_Max_int_int.calls k2 _ _ (rd_L3 D A) an _ ?s1 P.out aQ.out).mono ?_); (case s1 => exact cB O HB); rintro e b4 ⟨rfl, hb⟩; replace z := kB z hb; replace HB := hS1 HB E hb; (try clear hb)))
            go_roundg k2
            case measure => have := HJ1.out; have := HK2.out; omega
            case rel => exact ⟨(wrap64 (A + 1)), sI, H', ⟨by have := HJ1.out; have := HK2.out; omega⟩, kQ z, bT1 HB E⟩
         ·rw [if_neg am] at H; obtain ⟨aI, aJ⟩ := bn am; obtain rfl := Option.some.inj H; have L : 0 ≤ (A : Int) := oT aO; have M : A < (D.length : Int) := oT aO; obtain ⟨al, af, ag, W, F, G, I⟩ := at_L3 Y.out A L M; cases W; replace F := cX HB F; have O := aM I; have P := aM G; clear I G; replace L := eq_true L; replace M := eq_true M; obtain ⟨br, bs, bt, bu, bv, bw⟩ := bG3 z
          go_wp2
          go_ret
          exact ⟨by first | rfl | (simp [errW_none, errW_some] <;> rfl) | (simp only [← R]; first | rfl | (simp [errW_none, errW_some] <;> rfl)) | (simp [*, errW_none, errW_some] <;> rfl), bS1 HB.out E.out⟩
        ·exact nX aB H
       ·exact nX aA H
      ·rw [if_neg ah] at H; have aH := decide_eq_false ah; clear ah; obtain rfl := Option.some.inj H
       go_wp2
       go_ret
       exact ⟨eW, bS1 HB.out E.out⟩

end Go.Proofs.Ythgoonohpfoagaa.X
namespace Go.Proofs.Ythgoonohpfoagaa.X
open Go.RowKit Go.Proofs.YthgoonohpfoagaaW.PrintWords Go.Proofs.YthgoonohpfoagaaW.PrintLast Go.Proofs.YthgoonohpfoagaaW.PrintMore
attribute [local go_sem] max2_int min2_int max_two min_two max_three min_three max_four min_four
set_option linter.unusedVariables false
set_option linter.unusedSimpArgs false
set_option maxHeartbeats 8000000
set_option maxRecDepth 100000

-- NOT PRINTED: function 100 (canon_split_1)

/-! ### canon_dense: function 101 -/
/-- What is left of the list, the numbers told so far, the names. -/
def canon_dense.go : List Int → Nat → List Int → List Int → List Int × List Int
 | [], _, xs, ms => (xs, ms)
 | x :: l, j, xs, ms => canon_dense.go l (j + 1) (xs.set j ((num1 (names1 ms x) x : Nat) : Int)) (names1 ms x)
def canon_dense.f (l : List Int) : Option (List Int × Int) :=
 if l.length ≤ 35184372088832 then (if ∀ x ∈ l, (Lit.int .i64 x).wf = true then some ((canon_dense.go l 0 (List.replicate l.length 0) []).1, ((canon_dense.go l 0 (List.replicate l.length 0) []).2.length : Int)) else none) else none
theorem canon_dense.law : Go.Maps.Keyed Try.prog 3 := Go.Maps.int_keyed Try.underlying3
theorem canon_dense.zero (w : World) : (zeroValue 3).run Try.prog w = .ok (.int .i64 0) w := by kernel_rfl
theorem canon_dense.wf {n : Nat} (h : n ≤ 35184372088832) : (Lit.int .i64 (n : Int)).wf = true := by
 simp [Lit.wf, IntKind.min, IntKind.max, IntKind.signed, IntKind.bits]; omega
theorem canon_dense.calls (J : Option Addr) (L : Nat) (z : List Int) (M : List Int) (O : Int) (w : World) (E : Kd.C (Kd.int .i64) w J z.length z) (F : z.length ≤ L) (h : canon_dense.f z = some (M, O)) :
  Calls Try.prog 101 #[.slice J z.length L] w fun e w' => ∃ G : Value, e = .returned (.tuple #[G, .int .i64 O]) ∧ Kd.R (Kd.int .i64) 3 w' w.heap.size (fun _ => True) G M ∧ Below w.heap.size w w' := by
 unfold canon_dense.f at h
 by_cases A : z.length ≤ 35184372088832
 case neg => rw [if_neg A] at h; cases h
 by_cases B : ∀ x ∈ z, (Lit.int .i64 x).wf = true
 case neg => rw [if_pos A, if_neg B] at h; cases h
 rw [if_pos A, if_pos B] at h; obtain ⟨res, hres⟩ : ∃ res, res = canon_dense.go z 0 (List.replicate z.length 0) [] := ⟨_, rfl⟩; rw [← hres] at h; simp only [Option.some.injEq, Prod.mk.injEq] at h; obtain ⟨rfl, rfl⟩ := h; have HRES := aM hres.symm; clear hres; have P := aM E; have HW := aM B; have HL := aM A; have HC := aM F; have hmm := @run_makeMap Try.prog; have HN0 := aM (Names_.new Try.prog 3 3 (fun x : Int => Value.int .i64 x) w); have HB0 := aM (below_alloc (Below.refl w.heap.size w) (.map #[] 0)); clear E A B F
 go_enter Try.func101, Try.ntmps101
 go_wp2_with (((with_reducible refine gate_dst (N := 13) rfl ?_); refine Kd.R_make (Kd.int .i64) _ 3 rfl (N := 13) rfl 42 _ _ rfl (z.length : Int) rfl rfl Try.underlying42 (.int .i64 0) 8 info3 rfl (by decide) (by omega) 0 (ok := fun _ => True) (okp := fun _ => True) rfl (fun _ hk => hk) trivial (by omega) (by have := HL.out; omega) (Below.refl _ _) (Nat.le_refl _) ?_; intro V Z ho hb hg hnew; have HN := aM (Names_.kept HN0.out hg (by simp)); have HB := aM (below_step HB0.out hb); rw [Int.toNat_natCast] at ho; have HO := aM (Kd.R_mono (Kd.R_lower (base' := w.heap.size) (Kd.R_bound ho) (by simp)) (fun k hk => (show k ≠ w.heap.size from by have A := hk.2.1; simp at A; omega))); clear ho hb hg hnew HN0 HB0))
 go_loopw [16] (fun Q wr => ∃ (j : Nat) (xs ms : List Int) (D : DataW Unit), j ≤ z.length ∧ Q = .int .i64 j ∧ Aside0 (canon_dense.go (z.drop j) j xs ms = res) ∧ Aside0 (xs.length = z.length) ∧ Aside0 (ms.length ≤ j) ∧ Aside0 (Names_ Try.prog 3 3 (fun x : Int => Value.int .i64 x) wr w.heap.size ms D) ∧ Aside0 (Kd.R (Kd.int .i64) 3 wr w.heap.size (fun k => k ≠ w.heap.size) V xs) ∧ BA w wr) (fun i _ => z.length - (intOf i).toNat)
 case atStart => exact ⟨0, _, _, _, Nat.zero_le _, rfl, HRES, ⟨List.length_replicate⟩, ⟨Nat.le_refl _⟩, HN, HO, HB⟩
 case round =>
  clear HRES HN HO HB; obtain ⟨j, xs, ms, D, hj, rfl, HRES, HX, HM, HN, HO, HB⟩ := hrel
  by_cases c : j < z.length
  ·have hwx : (Lit.int .i64 z[j]).wf = true := HW.out _ (List.getElem_mem c); have hkey : keyOf Try.prog 3 (.int .i64 z[j]) = some (.int .i64 z[j]) := Go.Maps.keyOf_int_mk Try.underlying3 hwx; obtain ⟨ad, e, hx⟩ := Kd.at_int (Kd.C_below P.out HB.out) (j : Int) (by omega) (by omega)
   have hrd : rd z (j : Int) = z[j] := by simp [rd, List.getD_eq_getElem?_getD, List.getElem?_eq_getElem c]
   rw [hrd, Int.toNat_natCast] at hx; cases e; have cb : decide ((j : Int) < (z.length : Int)) = true := dT (by omega); obtain ⟨go, co, eo, gb, gl, cl, HG⟩ := Kd.R_form HO.out (by have := HX.out; omega); rw [HX.out] at eo; subst eo; obtain ⟨hy, hz⟩ := Kd.R_celln 0 HO.out (j : Int) (by omega) (by omega); rw [Int.toNat_natCast] at hy hz
   have hne : w.heap.size ≠ go := fun e_ => HO.out.1 go (by simp [Value.ownBlock]) e_.symm
   have hstep : ∀ (v : Int) (ms' : List Int), names1 ms z[j] = ms' → v = ((num1 ms' z[j] : Nat) : Int) → canon_dense.go (z.drop (j + 1)) (j + 1) (xs.set j v) ms' = res := by
    intro v ms' W Y; have := HRES.out; rw [List.drop_eq_getElem_cons c, canon_dense.go, W, ← Y] at this; exact this
   have hwr : wrap64 ((j : Int) + 1) = ((j + 1 : Nat) : Int) := by have := HL.out; unfold wrap64; omega
   by_cases hm : z[j] ∈ ms
   ·have hh : Go.Maps.has D (.int .i64 z[j]) = true := by rw [HN.out.has _ _ hkey]; simp [hm]
    have hat := HN.out.at_ _ _ hkey hm (.lit (.int .i64 0))
    go_wp2_with (first
     | (at_lookup; refine wpList_lookup_own_ok_int _ rfl _ _ 144 rfl 3 3 .i64 canon_dense.law Try.underlying144 Try.underlying3 (canon_dense.zero _) w.heap.size ms.length D rfl HN.out.own _ _ rfl hkey ?_; intro c' hat' hwc; rw [hat] at hat'; injection hat' with hat'; injection hat' with _ hat'; subst hat'; rw [hh]))
    have HP := Kd.R_putg HO.out (j : Int) (((num1 ms z[j] : Nat) : Int)); rw [Int.toNat_natCast] at HP
    go_roundw
    case rel => exact ⟨j + 1, _, ms, D, c, by rw [hwr], ⟨hstep _ ms (by simp [names1, hm]) rfl⟩, ⟨by rw [List.length_set]; exact HX.out⟩, ⟨by have := HM.out; omega⟩, ⟨HN.out.kept HP.2 (by simp; exact hne)⟩, ⟨HP.1⟩, ⟨below_set HB.out gb⟩⟩
    case measure => rw [hwr]; simp [intOf]; omega
   ·have hh : Go.Maps.has D (.int .i64 z[j]) = false := by rw [HN.out.has _ _ hkey]; simp [hm]
    have hsz := HN.out.size
    have hlen : ms.length < 35184372088832 := by have := HM.out; have := HL.out; omega
    go_wp2_with (first
     | (at_lookup; refine wpList_lookup_own_ok_int _ rfl _ _ 144 rfl 3 3 .i64 canon_dense.law Try.underlying144 Try.underlying3 (canon_dense.zero _) w.heap.size ms.length D rfl HN.out.own _ _ rfl hkey ?_; intro c' hat' hwc; rw [hh])
     | (at_len; refine wpList_len_own _ rfl _ 144 rfl 3 3 Try.underlying144 (plainElem Try.prog 3) w.heap.size ms.length D rfl HN.out.own ?_; rw [hsz])
     | (at_mapUpdate; refine wpList_mapUpdate_own _ rfl _ _ _ 144 rfl 3 3 canon_dense.law Try.underlying144 _ w.heap.size ms.length D rfl HN.out.own (by unfold maxLen; omega) _ _ _ rfl rfl hkey _ [] (plainElem_int Try.underlying3 (canon_dense.wf (by omega))) ?_; intro w1 hown1 hgrow1; have HN1 := aM (Names_.put canon_dense.law (fun x y e_ => by injection e_) HN.out hkey hm hown1); have I := aM (Kd.R_step HO.out (fun k hk U => hgrow1.block k U (by simp; exact hk))); have HB1 := aM (HB.out.grown hgrow1 (below_size HB.out) (fun k_ hk_ => by cases hk_; exact Nat.le_refl _)); clear hown1 HN HO HB hy hz; obtain ⟨hy, hz⟩ := Kd.R_celln 0 I.out (j : Int) (by omega) (by omega); rw [Int.toNat_natCast] at hy hz))
    have HP := Kd.R_putg I.out (j : Int) ((ms.length : Nat) : Int); rw [Int.toNat_natCast] at HP
    go_roundw
    case rel => exact ⟨j + 1, _, ms ++ [z[j]], _, c, by rw [hwr], ⟨hstep _ _ (by simp [names1, hm]) (by rw [num1, List.idxOf_append, if_neg hm]; simp)⟩, ⟨by rw [List.length_set]; exact HX.out⟩, ⟨by have := HM.out; rw [List.length_append]; simp; omega⟩, ⟨HN1.out.kept HP.2 (by simp; exact hne)⟩, ⟨HP.1⟩, ⟨below_set HB1.out gb⟩⟩
    case measure => rw [hwr]; simp [intOf]; omega
  ·have hj' : j = z.length := by omega
   subst hj'; have hfin := HRES.out; rw [List.drop_length, canon_dense.go] at hfin; subst hfin; have hsz := HN.out.size
   go_wp2_with (first
    | (at_len; refine wpList_len_own _ rfl _ 144 rfl 3 3 Try.underlying144 (plainElem Try.prog 3) w.heap.size ms.length D rfl HN.out.own ?_; rw [hsz]))
   go_ret2
   exact ⟨_, rfl, Kd.R_mono (rP HO) (fun _ _ => trivial), bO HB.out⟩

end Go.Proofs.Ythgoonohpfoagaa.X
namespace Go.Proofs.Ythgoonohpfoagaa.X
open Go.RowKit Go.Proofs.YthgoonohpfoagaaW.PrintWords Go.Proofs.YthgoonohpfoagaaW.PrintLast Go.Proofs.YthgoonohpfoagaaW.PrintMore
attribute [local go_sem] max2_int min2_int max_two min_two max_three min_three max_four min_four
set_option linter.unusedVariables false
set_option linter.unusedSimpArgs false
set_option maxHeartbeats 8000000
set_option maxRecDepth 100000

/-! ### canon_split: function 87 -/
def pairV (p : Int × Int) : Value := .agg #[.int .i64 p.1, .int .i64 p.2]
theorem pair_inj (x y : Int × Int) (h : pairV x = pairV y) : x = y := by
 obtain ⟨a, b⟩ := x; obtain ⟨c, d⟩ := y
 simpa [pairV] using h
theorem canon_split.laidOut : laidOutB Try.prog = true := by kernel_rfl
theorem pair_law : Go.Maps.Keyed Try.prog 141 := Go.Maps.Keyed.of_law (deep_law_laid canon_split.laidOut (m := 2) (by omega) (of_decide_eq_true (by kernel_rfl)) (by kernel_rfl) (by rw [Try.underlying141]))
theorem pair_key (p : Int × Int) (h1 : (Lit.int .i64 p.1).wf = true) (h2 : (Lit.int .i64 p.2).wf = true) : ∃ l, keyOf Try.prog 141 (pairV p) = some l := by
 have hk : Try.prog.keyType 141 = true := by kernel_rfl
 have hf : (pairV p).formed Try.prog 141 = true := by simp [pairV, Value.formed, Try.underlying141, show Try.prog.cellsOf 141 = 2 by kernel_rfl]
 have hl : Try.prog.keyLits (Try.prog.types.size + 1) 141 (pairV p).cells.toList = some [.int .i64 p.1, .int .i64 p.2] := by
  obtain ⟨n, hn⟩ : ∃ n, Try.prog.types.size = n + 1 := ⟨_, (by kernel_rfl : Try.prog.types.size = (Try.prog.types.size - 1) + 1)⟩; rw [hn]
  simp [Program.keyLits, Try.underlying141, Try.underlying3, show Try.prog.cellsOf 141 = 2 by kernel_rfl, show Try.prog.cellsOf 3 = 1 by kernel_rfl, pairV, Value.cells, h1, h2, List.range_succ, List.mapM_cons]
 unfold keyOf
 rw [Try.underlying141]; simp only [hk, hf, hl]; exact ⟨_, rfl⟩
/-- The variable 'pairs' (block g) and its map (block b). -/
structure canon_split.Inv (W : World) (g b : Nat) (ps : List (Int × Int)) (D : DataW Unit) : Prop where
 cell : W.heap[g]? = some (.cells #[.map (some b)] 140 (0, 0))
 nam : Names_ Try.prog 141 3 pairV W b ps D
theorem canon_split.Inv.ne {W : World} {g b : Nat} {ps : List (Int × Int)} {D : DataW Unit} (h : canon_split.Inv W g b ps D) : g ≠ b := by
 rintro rfl; obtain ⟨es, clock, hb, _⟩ := h.nam.own; rw [h.cell] at hb; cases hb
theorem canon_split.Inv.kept {W W1 : World} {g b : Nat} {ps : List (Int × Int)} {D : DataW Unit} (h : canon_split.Inv W g b ps D) {row : Option Nat} (hg : W.grownBy W1 row) (h1 : some g ≠ row) (h2 : some b ≠ row) : canon_split.Inv W1 g b ps D :=
 ⟨(hg.block g (blk_lt h.cell) h1).trans h.cell, h.nam.kept hg h2⟩
theorem canon_split.grown {W w1 w2 : World} {row : Option Nat} (hb : Below W.heap.size W w1) (hg : w1.grownBy w2 row) : W.grownBy w2 row :=
 ⟨hg.os.trans hb.os, hg.tape.trans hb.tape, hg.output.trans hb.output, Nat.le_trans hb.size hg.size, fun k hk hne => (hg.block k (Nat.lt_of_lt_of_le hk hb.size) hne).trans (hb.block k hk)⟩
theorem canon_split.Inv.below {W W1 : World} {g b : Nat} {ps : List (Int × Int)} {D : DataW Unit} (h : canon_split.Inv W g b ps D) (hb : Below W.heap.size W W1) : canon_split.Inv W1 g b ps D :=
 h.kept (row := none) (canon_split.grown hb (World.grownBy.refl W1 none)) (by simp) (by simp)
def canon_split.Res (W w' : World) (g b : Nat) (ps : List (Int × Int)) : Prop := ∃ D', canon_split.Inv w' g b ps D' ∧ W.grownBy w' (some b)
theorem canon_split.count (W : World) (g b : Nat) (ps : List (Int × Int)) (D : DataW Unit) (x y : Int) (hI : canon_split.Inv W g b ps D) (hx : (Lit.int .i64 x).wf = true) (hy : (Lit.int .i64 y).wf = true) (hl : ps.length < 35184372088832) :
  Calls Try.prog 100 #[.int .i64 x, .int .i64 y, .pointer (some ⟨g, 0, none⟩)] W fun e w' => e = .returned (.int .i64 ((num1 (names1 ps (x, y)) (x, y) : Nat) : Int)) ∧ canon_split.Res W w' g b (names1 ps (x, y)) := by
 obtain ⟨kl, hkey⟩ := pair_key (x, y) hx hy; have hkey' : keyOf Try.prog 141 (.agg #[.int .i64 x, .int .i64 y]) = some kl := hkey; have HI := aM hI; have HL := aM hl; have hcell : W.cell? ⟨g, 0, none⟩ = some (.map (some b)) := (blk_cell hI.cell 0).trans rfl
 have hca : ∀ o : Obj, (W.alloc o).cell? ⟨g, 0, none⟩ = some (.map (some b)) := fun o => pw_cell_below (below_alloc (Below.refl W.heap.size W) o) hcell
 have HB := aM (fun o : Obj => below_alloc (Below.refl W.heap.size W) o); clear hI hl hx hy
 by_cases hm : (x, y) ∈ ps
 ·have hh : Go.Maps.has D kl = true := by rw [HI.out.nam.has _ _ hkey]; simp [hm]
  have hat := HI.out.nam.at_ _ _ hkey hm (.lit (.int .i64 0))
  go_enter Try.func100, Try.ntmps100
  go_wp2_with (first
   | (at_lookup; refine wpList_lookup_own_ok_int _ rfl _ _ 140 rfl 141 3 .i64 pair_law Try.underlying140 Try.underlying3 (canon_dense.zero _) b ps.length D rfl (HI.out.below (HB.out _)).nam.own _ _ rfl hkey' ?_; intro c' hat' hwc; rw [hat] at hat'; injection hat' with hat'; injection hat' with _ hat'; subst hat'; rw [hh]))
  go_ret
  have A : names1 ps (x, y) = ps := by simp [names1, hm]
  rw [A]; exact ⟨rfl, ⟨D, HI.out.below (bO (HB.out _)), canon_split.grown (bO (HB.out _)) (World.grownBy.refl _ _)⟩⟩
 ·have hh : Go.Maps.has D kl = false := by rw [HI.out.nam.has _ _ hkey]; simp [hm]
  have hsz := HI.out.nam.size
  go_enter Try.func100, Try.ntmps100
  go_wp2_with (first
   | (at_lookup; refine wpList_lookup_own_ok_int _ rfl _ _ 140 rfl 141 3 .i64 pair_law Try.underlying140 Try.underlying3 (canon_dense.zero _) b ps.length D rfl (HI.out.below (HB.out _)).nam.own _ _ rfl hkey' ?_; intro c' hat' hwc; rw [hh])
   | (at_len; refine wpList_len_own _ rfl _ 140 rfl 141 3 Try.underlying140 (plainElem Try.prog 3) b ps.length D rfl (HI.out.below (HB.out _)).nam.own ?_; rw [hsz])
   | (at_mapUpdate; go_loud (refine wpList_mapUpdate_own _ rfl _ _ _ 140 rfl 141 3 pair_law Try.underlying140 _ b ps.length D rfl (HI.out.below (HB.out _)).nam.own (by have := HL.out; unfold maxLen; omega) _ _ _ rfl rfl hkey' _ [] (plainElem_int Try.underlying3 (canon_dense.wf (by have := HL.out; omega))) ?_; intro F hown2 hgrow2; have HN2 := aM (Names_.put pair_law pair_inj HI.out.nam hkey hm hown2); have HG2 := aM (canon_split.grown (HB.out _) hgrow2); have B := aM ((hgrow2.block g (blk_lt (HI.out.below (HB.out _)).cell) (by simp; exact HI.out.ne)).trans (HI.out.below (HB.out _)).cell); clear hown2 hgrow2)))
  go_ret
  have A : names1 ps (x, y) = ps ++ [(x, y)] := by simp [names1, hm]
  have E := num1_new hm; rw [A, E]; exact ⟨rfl, ⟨_, ⟨B.out, HN2.out⟩, HG2.out⟩⟩
theorem canon_split.Inv.drewN {W : World} {g b : Nat} {ps : List (Int × Int)} {D : DataW Unit} (h : canon_split.Inv W g b ps D) (n : Nat) : canon_split.Inv (W.drewN n) g b ps D := h.kept (row := none) ⟨rfl, rfl, rfl, Nat.le_refl _, fun _ _ _ => rfl⟩ (by simp) (by simp)
theorem canon_split.Inv.drew {W : World} {g b : Nat} {ps : List (Int × Int)} {D : DataW Unit} (h : canon_split.Inv W g b ps D) : canon_split.Inv W.drew g b ps D := h.kept (row := none) ⟨rfl, rfl, rfl, Nat.le_refl _, fun _ _ _ => rfl⟩ (by simp) (by simp)
/-- What is left of a row: the number that it comes to, the pairs. -/
def canon_split.row (cls : List Int) (len : Int) : List Int → Int → Int → List (Int × Int) → Option (Int × List (Int × Int))
 | [], _, n, ps => some (n, ps)
 | q :: r, a, n, ps =>
  if 0 ≤ q then (if q < (cls.length : Int) then
   (if (Lit.int .i64 (rd cls q)).wf = true then (if ps.length < 35184372088832 then
    canon_split.row cls len r (wrap64 (a + 1)) ((num1 (names1 ps (wrap64 (wrap64 (n * wrap64 (len + 1)) + a), rd cls q)) (wrap64 (wrap64 (n * wrap64 (len + 1)) + a), rd cls q) : Nat) : Int) (names1 ps (wrap64 (wrap64 (n * wrap64 (len + 1)) + a), rd cls q))
   else none) else none) else none) else none
/-- What is left of the rows: the numbers told so far, the pairs. -/
def canon_split.go (cls : List Int) : List (List Int) → Nat → List Int → List (Int × Int) → Option (List Int)
 | [], _, xs, _ => some xs
 | r :: l, j, xs, ps =>
  if j < cls.length then (canon_split.row cls (r.length : Int) r 0 (rd cls (j : Int)) ps).bind fun z => canon_split.go cls l (j + 1) (xs.set j z.1) z.2 else none
def canon_split.f (ns : List ByteArray) (ac : List Bool) (nx : List (List Int)) (cls : List Int) : Option (List Int × Int) :=
 if cls.length ≤ 35184372088832 then (canon_split.go cls nx 0 (List.replicate cls.length 0) []).bind fun xs => canon_dense.f xs else none
theorem canon_split.calls (O : Option Addr) (P : Nat) (E : List ByteArray) (Q : Option Addr) (U : Nat) (F : List Bool) (V : Option Addr) (Y : Nat) (A : List (List Int)) (A1 : Option Addr) (c1 : Nat) (G : List Int) (r1 : List Int) (r2 : Int) (w : World)
  (aj : Kd.C Kd.string w O E.length E) (ak : E.length ≤ P) (al : Kd.C Kd.bool w Q F.length F) (am : F.length ≤ U) (I : Kd.C (Kd.slice 3 (Kd.int .i64)) w V A.length A) (aa : A.length ≤ Y) (ao : Kd.C (Kd.int .i64) w A1 G.length G) (ap : G.length ≤ c1)
  (h : canon_split.f E F A G = some (r1, r2)) :
  Calls Try.prog 87 #[.agg #[.slice O E.length P, .slice Q F.length U, .slice V A.length Y], .slice A1 G.length c1] w fun e w' => ∃ aq : Value, e = .returned (.tuple #[aq, .int .i64 r2]) ∧ Kd.R (Kd.int .i64) 3 w' w.heap.size (fun _ => True) aq r1 ∧ Below w.heap.size w w' := by
 unfold canon_split.f at h
 by_cases h1 : G.length ≤ 35184372088832
 case neg => rw [if_neg h1] at h; cases h
 rw [if_pos h1] at h; replace h := Option.bind_eq_some_iff.mp h; obtain ⟨res, hres, hden⟩ := h; have HRES := aM hres; have HDEN := aM hden; have aE := aM I; have aR := aM aa; have ar := aM ao; have aS := aM ap; have HL := aM h1; have hm2 : A.length ≤ 9223372036854775807 := I.2.1; have hmm := @run_makeMap Try.prog; clear hres hden aj ak al am I aa ao ap h1
 go_enter Try.func87, Try.ntmps87
 go_wp2_with (first
  | ((with_reducible refine gate_dst (N := 2) rfl ?_); refine be_ (cs := #[.slice O E.length P, .slice Q F.length U, .slice V A.length Y]) (t := 31) ?_; intro gd hg B hbox hb; have BKD := aM hbox; have HB := aM hb; have HS := aM (show w.heap.size ≤ B.heap.size from below_size hb); clear hg hbox hb)
  | ((with_reducible refine gate_dst (N := 18) rfl ?_); refine Kd.R_make (Kd.int .i64) _ 3 rfl (N := 18) rfl 42 _ _ rfl (G.length : Int) rfl rfl Try.underlying42 (.int .i64 0) 8 info3 rfl (by decide) (by omega) 0 (ok := fun _ => True) (okp := fun _ => True) rfl (fun _ hk => hk) trivial (by omega) (by have := HL.out; omega) (Below.refl _ _) (Nat.le_refl _) ?_; intro v8 w8 ho hb hg hnew; have HI := aM (show canon_split.Inv w8 (B.heap.size + 1) B.heap.size [] (.map []) from canon_split.Inv.kept (W := (B.alloc (.map #[] 0)).alloc (.cells #[.map (some B.heap.size)] 140)) ⟨by simpa using heap_alloc_new (B.alloc (.map #[] 0)) (.cells #[.map (some B.heap.size)] 140), (Names_.new _ _ _ _ B).kept (World.grownBy_alloc _ _ none) (by simp)⟩ hg (by simp) (by simp)); rw [Int.toNat_natCast] at ho; have HO := aM (Kd.R_mono (Kd.R_lower (base' := w.heap.size) (Kd.R_bound ho) (by have := below_size HB.out; simp; omega)) (fun k hk => (show B.heap.size + 2 ≤ k from (by have h1 := hk.2.1; simp at h1; omega)))); have HB8 := aM (below_step (below_alloc (below_alloc HB.out (.map #[] 0)) (.cells #[.map (some B.heap.size)] 140)) hb); replace BKD := kB BKD hb; obtain ⟨aw, ax, ay, az, aA, aB⟩ := bG3 BKD; clear ho hb hg hnew HB))
 go_loopw [22] (fun ag wr => ∃ (j : Nat) (xs : List Int) (ps : List (Int × Int)) (D : DataW Unit), j ≤ A.length ∧ ag = .int .i64 j ∧ Aside0 (canon_split.go G (A.drop j) j xs ps = some res) ∧ Aside0 (xs.length = G.length) ∧ Aside0 (canon_split.Inv wr (B.heap.size + 1) B.heap.size ps D) ∧ Aside0 (Kd.R (Kd.int .i64) 3 wr w.heap.size (fun k => B.heap.size + 2 ≤ k) v8 xs) ∧ BA w wr) (fun ag _ => A.length - (intOf ag).toNat)
 case atStart => exact ⟨0, _, _, _, Nat.zero_le _, rfl, HRES, ⟨List.length_replicate⟩, HI, HO, HB8⟩
 case round =>
  clear HRES HI HO HB8 aw ax ay az aA aB BKD; obtain ⟨j, xs, ps, D, hj, rfl, HRES, HX, HI, HO, HB⟩ := hrel
  by_cases c : j < A.length
  ·have h := HRES.out; rw [List.drop_eq_getElem_cons c, canon_split.go] at h
   by_cases cj : j < G.length
   case neg => rw [if_neg cj] at h; cases h
   rw [if_pos cj] at h; replace h := Option.bind_eq_some_iff.mp h; obtain ⟨z, hz, h⟩ := h; obtain ⟨ad, A2, c2, e0, L, ab, M⟩ := at_L3 aE.out (j : Int) (by omega) (by omega); cases e0
   have r0 : rd_L3 A (j : Int) = A[j] := by simp [rd_L3, List.getD_eq_getElem?_getD, List.getElem?_eq_getElem c]
   rw [r0] at L ab M; obtain ⟨x, hxx⟩ : ∃ x, x = A[j] := ⟨_, rfl⟩; rw [← hxx] at L ab M hz; rw [Int.toNat_natCast] at L; have hx := cX HB L; obtain ⟨adc, e1, hxc0⟩ := Kd.at_int ar.out (j : Int) (by omega) (by omega); cases e1; rw [Int.toNat_natCast] at hxc0; have hxc := cX HB hxc0; have cb : decide ((j : Int) < (A.length : Int)) = true := dT (by omega); have HZ := aM hz; have HRES := aM h; have HL2 := aM ab; have HI2 := aM M; have hxl : x.length ≤ 9223372036854775807 := M.2.1; clear h hz ab M L hxc0 r0 hxx
   go_wp2
   go_loopw [11, 33] (fun aH ah wq => ∃ (i : Nat) (n : Int) (ps2 : List (Int × Int)) (D2 : DataW Unit), i ≤ x.length ∧ aH = .int .i64 n ∧ ah = .int .i64 i ∧ Aside0 (canon_split.row G (x.length : Int) (x.drop i) (i : Int) n ps2 = some z) ∧ Aside0 (canon_split.Inv wq (B.heap.size + 1) B.heap.size ps2 D2) ∧ Aside0 (Kd.R (Kd.int .i64) 3 wq w.heap.size (fun k => B.heap.size + 2 ≤ k) v8 xs) ∧ BA w wq) (fun _ ah _ => x.length - (intOf ah).toNat)
   case atStart => exact ⟨0, _, ps, D, Nat.zero_le _, rfl, rfl, HZ, HI, HO, HB⟩
   case round =>
    clear HZ HI HO HB hx hxc; obtain ⟨i, n, ps2, D2, hi, rfl, rfl, HZ, HI, HO, HB⟩ := hrel
    by_cases ci : i < x.length
    ·have h := HZ.out; rw [List.drop_eq_getElem_cons ci, canon_split.row] at h; obtain ⟨aT, e2, J⟩ := Kd.at_int HI2.out (i : Int) (by omega) (by omega); cases e2
     have hrd : rd x (i : Int) = x[i] := by simp [rd, List.getD_eq_getElem?_getD, List.getElem?_eq_getElem ci]
     rw [hrd, Int.toNat_natCast] at J; obtain ⟨q, hq⟩ : ∃ q, q = x[i] := ⟨_, rfl⟩; rw [← hq] at h J
     by_cases Z : 0 ≤ q
     case neg => rw [if_neg Z] at h; cases h
     by_cases q1 : q < (G.length : Int)
     case neg => rw [if_pos Z, if_neg q1] at h; cases h
     by_cases q2 : (Lit.int .i64 (rd G q)).wf = true
     case neg => rw [if_pos Z, if_pos q1, if_neg q2] at h; cases h
     by_cases q3 : ps2.length < 35184372088832
     case neg => rw [if_pos Z, if_pos q1, if_pos q2, if_neg q3] at h; cases h
     rw [if_pos Z, if_pos q1, if_pos q2, if_pos q3] at h; obtain ⟨adc', e3, hxc0⟩ := Kd.at_int ar.out q Z q1
     obtain rfl : adc = adc' := by injection e3
     clear e3; have aU := cX HB J; have hxc := cX HB hxc0; have HZ := aM h; have Q2 := aM q2; have Q3 := aM q3; have qb0 := dT Z; have qb1 := dT q1; have cb2 : decide ((i : Int) < (x.length : Int)) = true := dT (by omega); clear h J hxc0 hrd q2 q3 hq
     go_wp2_with (go_at_call 100; (with_reducible refine (canon_split.count _ _ B.heap.size ps2 D2 _ _ ?s0 ?s1 Q2.out Q3.out).mono ?_); (case s0 => exact HI.out); (case s1 => exact wrap64_wf _); rintro e wz ⟨rfl, hz⟩; have HQ := aM hz; clear hz)
     obtain ⟨D3, hI3, hg3⟩ := HQ.out; have aJ := aM (Kd.R_step HO.out (fun k hk aK => hg3.block k aK (by simp; omega))); have HB3 := aM (HB.out.grown hg3 (below_size HB.out) (fun k_ hk_ => by cases hk_; exact HS.out)); have HI3 := aM hI3; clear HQ hI3 hg3
     have hwr : wrap64 ((i : Int) + 1) = ((i + 1 : Nat) : Int) := by have := hxl; unfold wrap64; omega
     have HZ' := HZ.out; rw [hwr] at HZ'
     go_roundw
     case rel => exact ⟨i + 1, _, _, D3, by omega, rfl, (by first | (rw [hwr]) | (simp)), ⟨HZ'⟩, HI3, aJ, HB3⟩
     case measure => (try rw [hwr]); simp [intOf]; omega
    ·have hi' : i = x.length := by omega
     subst hi'; have hfin := HZ.out; rw [List.drop_length, canon_split.row] at hfin; obtain rfl := Option.some.inj hfin
     have cb2 : decide ((x.length : Int) < (x.length : Int)) = false := by simp
     obtain ⟨go, co, eo, gb, gl, cl, HG⟩ := Kd.R_form HO.out (by have := HX.out; omega); rw [HX.out] at eo; subst eo; obtain ⟨hy, hz⟩ := Kd.R_celln 0 HO.out (j : Int) (by omega) (by omega); rw [Int.toNat_natCast] at hy hz; have hne : B.heap.size + 2 ≤ go := HO.out.1 go (by simp [Value.ownBlock])
     have hwj : wrap64 ((j : Int) + 1) = ((j + 1 : Nat) : Int) := by unfold wrap64; omega
     go_wp2
     have HP := Kd.R_putg HO.out (j : Int) n; rw [Int.toNat_natCast] at HP
     go_roundw
     case rel => exact ⟨j + 1, _, ps2, D2, c, (by first | (rw [hwj]) | (simp)), HRES, ⟨by rw [List.length_set]; exact HX.out⟩, ⟨HI.out.kept HP.2 (by simp; omega) (by simp; omega)⟩, ⟨HP.1⟩, ⟨below_set HB.out gb⟩⟩
     case measure => (try rw [hwj]); simp [intOf]; omega
  ·have hj' : j = A.length := by omega
   subst hj'; have hfin := HRES.out; rw [List.drop_length, canon_split.go] at hfin; obtain rfl := Option.some.inj hfin
   have cb : decide ((A.length : Int) < (A.length : Int)) = false := by simp
   obtain ⟨Ao, co, eo⟩ := sL HO; subst eo
   go_wp2_with (go_at_call 101; (with_reducible refine (canon_dense.calls _ _ xs r1 r2 _ ?s0 (rR HO).2.1 HDEN.out).mono ?_); (case s0 => exact (rR HO).2.2); rintro e wz ⟨vz, rfl, hr, hb⟩; have HR := aM hr; have HBZ := aM (below_step HB.out hb); clear hr hb)
   go_ret2
   exact ⟨_, rfl, Kd.R_lower (rP HR) (below_size HB.out), bO HBZ.out⟩

end Go.Proofs.Ythgoonohpfoagaa.X
namespace Go.Proofs.Ythgoonohpfoagaa.X
open Go.RowKit Go.Proofs.YthgoonohpfoagaaW.PrintWords Go.Proofs.YthgoonohpfoagaaW.PrintLast Go.Proofs.YthgoonohpfoagaaW.PrintMore
attribute [local go_sem] max2_int min2_int max_two min_two max_three min_three max_four min_four
set_option linter.unusedVariables false
set_option linter.unusedSimpArgs false
set_option maxHeartbeats 8000000
set_option maxRecDepth 100000

/-! ### canon_classes: function 62 -/
mutual
def canon_classes.l0 : Nat → List Int → List Bool → Int → Int → List ByteArray → List Bool → List (List Int) → Option (List Int)
 | 0, _, _, _, _, _, _, _ => none
 | k + 1, x3, x14, x15, x16, x263000, x263001, x263002 => if x16 < x15 then (if 0 ≤ x16 then (if x16 < (x14.length : Int) then (if rdOf false x14 x16 = true then (if x16 < (x3.length : Int) then (canon_classes.l0 k (x3.set (x16 : Int).toNat 1) x14 x15 (wrap64 (x16 + 1)) x263000 x263001 x263002) else (none)) else (canon_classes.l0 k x3 x14 x15 (wrap64 (x16 + 1)) x263000 x263001 x263002)) else (none)) else (none)) else (canon_classes.l1 k x3 0 x263000 x263001 x263002)
def canon_classes.l1 : Nat → List Int → Int → List ByteArray → List Bool → List (List Int) → Option (List Int)
 | 0, _, _, _, _, _ => none
 | k + 1, x3, x6, x263000, x263001, x263002 => (canon_split.f x263000 x263001 x263002 x3).bind fun bt268 => (if bt268.2 = x6 then (some bt268.1) else (canon_classes.l1 k bt268.1 bt268.2 x263000 x263001 x263002))
end
def canon_classes.f (k : Nat) (l0_0 : List ByteArray) (l0_1 : List Bool) (l0_2 : List (List Int)) : Option (List Int) := if 0 ≤ (l0_1.length : Int) then (if ((l0_1.length : Int) : Int).toNat ≤ 35184372088832 then (canon_classes.l0 k (List.replicate ((l0_1.length : Int) : Int).toNat 0) l0_1 (l0_1.length : Int) 0 l0_0 l0_1 l0_2) else (none)) else (none)
theorem canon_classes.mono_l : ∀ k, (∀ y0 y1 y2 y3 y4 y5 y6, LeO (canon_classes.l0 k y0 y1 y2 y3 y4 y5 y6) (canon_classes.l0 (k + 1) y0 y1 y2 y3 y4 y5 y6)) ∧ (∀ y0 y1 y2 y3 y4, LeO (canon_classes.l1 k y0 y1 y2 y3 y4) (canon_classes.l1 (k + 1) y0 y1 y2 y3 y4))
 | 0 => ⟨fun _ _ _ _ _ _ _ r h => by simp [canon_classes.l0] at h, fun _ _ _ _ _ r h => by simp [canon_classes.l1] at h⟩
 | k + 1 => by
  obtain ⟨ih0, ih1⟩ := canon_classes.mono_l k; refine ⟨?_, ?_⟩
  ·intro y0 y1 y2 y3 y4 y5 y6
   unfold canon_classes.l0
   repeat' first | (with_reducible first | exact ih0 _ _ _ _ _ _ _ | exact ih1 _ _ _ _ _ | exact lA | apply lI | refine lB ?_ fun _ => ?_) | exact lN _ | apply lI | refine lB ?_ fun _ => ?_
  ·intro y0 y1 y2 y3 y4
   unfold canon_classes.l1
   repeat' first | (with_reducible first | exact ih0 _ _ _ _ _ _ _ | exact ih1 _ _ _ _ _ | exact lA | apply lI | refine lB ?_ fun _ => ?_) | exact lN _ | apply lI | refine lB ?_ fun _ => ?_
theorem canon_classes.mono : ∀ a0 a1 a2 k, LeO (canon_classes.f k a0 a1 a2) (canon_classes.f (k + 1) a0 a1 a2) := by
 intro a0 a1 a2 k; obtain ⟨ih0, ih1⟩ := canon_classes.mono_l k
 unfold canon_classes.f
 repeat' first | (with_reducible first | exact ih0 _ _ _ _ _ _ _ | exact ih1 _ _ _ _ _ | exact lA | apply lI | refine lB ?_ fun _ => ?_) | exact lN _ | apply lI | refine lB ?_ fun _ => ?_
theorem canon_classes.calls (k : Nat) (L : Option Addr) (M : Nat) (F : List ByteArray) (O : Option Addr) (P : Nat) (A : List Bool) (Q : Option Addr) (U : Nat) (G : List (List Int)) (r : List Int) (w : World) (ak : Kd.C Kd.string w L F.length F) (al : F.length ≤ M) (am : Kd.C Kd.bool w O A.length A) (an : A.length ≤ P) (ao : Kd.C (Kd.slice 3 (Kd.int .i64)) w Q G.length G) (ap : G.length ≤ U) (h : canon_classes.f k F A G = some r) :
  Calls Try.prog 62 #[.agg #[.slice L F.length M, .slice O A.length P, .slice Q G.length U]] w fun e w' => ∃ aV : Value, e = .returned (aV) ∧ Kd.R (Kd.int .i64) 3 w' w.heap.size (fun _ => True) aV r ∧ Below w.heap.size w w' := by
 have hu31 := Try.underlying31; have aq := aM ak; have ar := aM al; clear ak al; have aa := aM am; have au := aM an; clear am an; have av := aM ao; have aw := aM ap; clear ao ap; have HB := aM (Below.refl w.heap.size w); rw [canon_classes.f] at h; have H := h; clear h
 by_cases c2 : 0 ≤ (A.length : Int)
 ·rw [if_pos c2] at H; have bJ := eq_true c2; have bK := dT c2; clear c2
  by_cases c3 : ((A.length : Int) : Int).toNat ≤ 35184372088832
  ·rw [if_pos c3] at H; have bL := eq_true c3; have bM := dT c3; clear c3; obtain ⟨aX, ab⟩ : ∃ y_ : List Int, y_ = (List.replicate ((A.length : Int) : Int).toNat 0) := ⟨_, rfl⟩
   first | replace H := rI ab H | rw [← ab] at H
   have aP := aM ab; clear ab; have H' := aM H; clear H
   go_enter Try.func62, Try.ntmps62
   go_wp2_with (first | ((with_reducible refine gate_dst (N := 1) rfl ?_); refine be_ (cs := #[.slice L F.length M, .slice O A.length P, .slice Q G.length U]) (t := 31) ?_; intro ax hg w4 hbox hb; have B := aM (hbox); have bF := gE hg (bP0 HB); have E := gE hg (bP0 HB); replace HB := hS0 HB hb; clear hb hbox hg; obtain ⟨bp, br, bs, bt, bu, bv⟩ := bG3 B) | ((with_reducible refine gate_dst (N := 12) rfl ?_); refine Kd.R_make (Kd.int .i64) _ 3 rfl (N := 12) rfl 42 _ _ rfl (A.length : Int) rfl rfl Try.underlying42 (.int .i64 0) 8 info3 rfl (by decide) (by omega) 0 (ok := fun _ => True) (okp := fun _ => True) rfl (fun _ hk => hk) trivial (oT aO) (Nat.le_trans (Nat.mul_le_mul_right _ (oT aO : (A.length : Int).toNat ≤ 35184372088832)) (by omega)) (Below.refl _ _) (Nat.le_refl _) ?_; intro aY w6 ay hb hg_ hnew_; clear hg_ hnew_; replace ay := nW aP ay; have aQ := rW ay (bP1 HB E); replace B := kB B hb; replace HB := hS1 HB E hb; clear hb ay; obtain ⟨bw, bx, bz, bA, bB, bC⟩ := bG3 B))
   go_loopg [16] k (fun kq bD w' => ∃ (J : List Int) (z : Int), bD = .int .i64 z ∧ Aside0 (canon_classes.l0 kq J A (A.length : Int) z F A G = some r) ∧ Aside0 (kq ≤ k) ∧ RA (Kd.int .i64) 3 w' w aY J ∧ Aside0 (w'.heap[ax]? = some (.cells #[(.slice L F.length M), (.slice O A.length P), (.slice Q G.length U)] 31 (0, 0))) ∧ BA w w')
   case atStart => exact ⟨(aX), (0), sI, H', ⟨Nat.le_refl _⟩, rQ aQ, kQ B, bT1 HB E⟩
   case round =>
    clear H'
    obtain ⟨J, z, rfl, HA, HK1, D, B, HB⟩ := hrel; cases gk with
    | zero => exact absurd HA.out (by simp [canon_classes.l0])
    | succ k1 =>
     have H := HA.out; clear HA; simp only [canon_classes.l0] at H
     by_cases c9 : z < (A.length : Int)
     ·rw [if_pos c9] at H; have aZ := dT c9; clear c9
      by_cases az : 0 ≤ z
      ·rw [if_pos az] at H; have bG := dT az; clear az
       by_cases aA : z < (A.length : Int)
       ·rw [if_pos aA] at H; have bH := dT aA; clear aA; obtain ⟨a3, ag⟩ : ∃ b_ : Bool, b_ = (rdOf false A z) := ⟨_, rfl⟩
        rw [← ag] at H
        have Nbq12 := aM ag; clear ag
        by_cases aB : a3 = true
        ·subst aB
         rw [if_pos rfl] at H
         by_cases aC : z < (J.length : Int)
         ·rw [if_pos aC] at H; have bI := dT aC; clear aC; obtain ⟨aG, ac⟩ : ∃ y_ : List Int, y_ = (J.set (z : Int).toNat 1) := ⟨_, rfl⟩
          first | replace H := rI ac H | rw [← ac] at H
          have aR := aM ac; clear ac; have H' := aM H; clear H; have V : 0 ≤ (z : Int) := oT aO; have W : z < (A.length : Int) := oT aO; obtain ⟨aS, aj, I⟩ := Kd.at_bool aa.out z V W
          (try rw [← Nbq12.out] at I)
          cases aj; replace I := cX HB I; replace V := eq_true V; replace W := eq_true W; have aH : 0 ≤ (z : Int) := oT aO; have aI : (z : Int) < ((J.length : Int) : Int) := oT aO; obtain ⟨go15, a4, aJ, aK, gl15, cl15, HG15⟩ := Kd.R_form D.out (by omega)
          (first | cases aJ | (injection aJ with ea_ en_ ec_; (first | subst ea_ | (injection ea_ with ea_; subst ea_)); subst ec_; clear en_))
          have GB15 := aM aK; have GG15 := aM HG15; clear aK gl15 HG15; obtain ⟨bE, hf15_0⟩ := Kd.R_celln 0 D.out (z : Int) aH aI; replace aH := eq_true aH; replace aI := eq_true aI; have HP16 := Kd.R_putg D.out (z : Int) 1
          go_wp2_with (first | ((with_reducible refine gate_store (t := 3) (p := 24) rfl ?_); refine store_event (t := 3) (p := 24) (v := ?vo_w17) (w1 := (wr.setCell ⟨go15, (z : Int).toNat, none⟩ (.int .i64 1))) ?hg ?ho ?hn ?hr ?_; (case ho => rfl); (case hg => rfl); (case hn => rfl); (case hr => first | (go_simp; done) | (go_simp; rfl)); intro aL hw; have hg : wr.grownBy aL (some go15) := (by rw [hw]; exact HP16.2); have hp_ : Kd.R (Kd.int .i64) 3 aL w.heap.size (fun _ => True) (.slice (some ⟨go15, 0, none⟩) J.length a4) aG := (by rw [hw, aR.out]; exact HP16.1); clear HP16; replace B := kG B hg D; replace D := aM (hp_); replace HB := aM ((by rw [hw]; exact below_set (HB.out) GB15.out : Below w.heap.size w aL)); clear hg hw hp_))
          go_roundg k1
          case measure => have := HK1.out; omega
          case rel => exact ⟨(aG), (wrap64 (z + 1)), sI, H', ⟨by have := HK1.out; omega⟩, rQ D, kQ B, bT1 HB E⟩
         ·exact nX aC H
        ·replace aB := Bool.eq_false_iff.mpr aB; subst aB
         rw [if_neg nF] at H; have H' := aM H; clear H; have V : 0 ≤ (z : Int) := oT aO; have W : z < (A.length : Int) := oT aO; obtain ⟨aS, aj, I⟩ := Kd.at_bool aa.out z V W
         (try rw [← Nbq12.out] at I)
         cases aj; replace I := cX HB I; replace V := eq_true V; replace W := eq_true W
         go_wp2
         go_roundg k1
         case measure => have := HK1.out; omega
         case rel => exact ⟨(J), (wrap64 (z + 1)), sI, H', ⟨by have := HK1.out; omega⟩, rQ D, kQ B, bT1 HB E⟩
       ·exact nX aA H
      ·exact nX az H
     ·rw [if_neg c9] at H; have aZ := decide_eq_false c9; clear c9; have H' := aM H; clear H
      go_wp2
      go_loopg [3, 6] k1 (fun kq v3 v6 w' => ∃ (Y : List Int) (ad : Int), v6 = .int .i64 ad ∧ Aside0 (canon_classes.l1 kq Y ad F A G = some r) ∧ Aside0 (kq ≤ k1) ∧ RA (Kd.int .i64) 3 w' w v3 Y ∧ Aside0 (w'.heap[ax]? = some (.cells #[(.slice L F.length M), (.slice O A.length P), (.slice Q G.length U)] 31 (0, 0))) ∧ BA w w')
      case atStart => exact ⟨(J), (0), sI, H', ⟨Nat.le_refl _⟩, rQ D, kQ B, bT1 HB E⟩
      case round =>
       clear H'
       obtain ⟨Y, ad, rfl, HA, HK2, D, B, HB⟩ := hrel; cases gk with
       | zero => exact absurd HA.out (by simp [canon_classes.l1])
       | succ k2 =>
        have H := HA.out; clear HA; simp only [canon_classes.l1] at H; replace H := Option.bind_eq_some_iff.mp H; obtain ⟨⟨ae, Z⟩, aN, H⟩ := H; replace H : (if Z = ad then (some ae) else (canon_classes.l1 k2 ae Z F A G)) = some r := H; have aW := aM aN; clear aN
        by_cases ai : Z = ad
        ·rw [if_pos ai] at H; obtain ⟨aT, aU⟩ := bq ai; clear ai; obtain rfl := Option.some.inj H; obtain ⟨bc, bd, be, bf, bg, bh⟩ := bG3 B; obtain ⟨a5, a6, a7⟩ := sL D; subst a7
         go_wp2_with (first | ((with_reducible refine gate_callee (f := 87) rfl ?_); refine gL_ (some 29) Try.func87 #[.agg #[.slice L F.length M, .slice O A.length P, .slice Q G.length U], .slice a5 Y.length a6] ?_; (with_reducible refine (canon_split.calls _ _ F _ _ A _ _ G _ _ Y ae Z _ ?s1 ar.out ?s3 au.out ?s5 aw.out ?s7 (rR D).2.1 aW.out).mono ?_); (case s1 => exact cB aq HB); (case s3 => exact cB aa HB); (case s5 => exact cB av HB); (case s7 => exact cO (rR D).2.2); rintro e bP ⟨a8, rfl, af, hb⟩; refine ⟨_, rfl, ?_⟩; have ah := rW (Kd.R_new' af (Kd.R_lt (rP D))) (bP1 HB E); replace D := aM (Kd.R_elder' (rP D) (Kd.R_base af) hb); replace B := kB B hb; replace HB := hS1 HB E hb; (try clear hb); (try clear af)))
         go_ret
         exact ⟨_, eW, rM ah (fun _ hk => trivial), bS1 HB.out E.out⟩
        ·rw [if_neg ai] at H; obtain ⟨aT, aU⟩ := bn ai; have H' := aM H; clear H; obtain ⟨bi, bj, bk, bl, bm, bo⟩ := bG3 B; obtain ⟨a9, ba, bb⟩ := sL D; subst bb
         go_wp2_with (first | ((with_reducible refine gate_callee (f := 87) rfl ?_); refine gL_ (some 29) Try.func87 #[.agg #[.slice L F.length M, .slice O A.length P, .slice Q G.length U], .slice a9 Y.length ba] ?_; (with_reducible refine (canon_split.calls _ _ F _ _ A _ _ G _ _ Y ae Z _ ?s1 ar.out ?s3 au.out ?s5 aw.out ?s7 (rR D).2.1 aW.out).mono ?_); (case s1 => exact cB aq HB); (case s3 => exact cB aa HB); (case s5 => exact cB av HB); (case s7 => exact cO (rR D).2.2); rintro e bQ ⟨a8, rfl, af, hb⟩; refine ⟨_, rfl, ?_⟩; have ah := rW (Kd.R_new' af (Kd.R_lt (rP D))) (bP1 HB E); replace D := aM (Kd.R_elder' (rP D) (Kd.R_base af) hb); replace B := kB B hb; replace HB := hS1 HB E hb; (try clear hb); (try clear af)))
         go_roundg k2
         case measure => have := HK1.out; have := HK2.out; omega
         case rel => exact ⟨(ae), (Z), sI, H', ⟨by have := HK1.out; have := HK2.out; omega⟩, ⟨rM ah (fun _ hk => trivial)⟩, kQ B, bT1 HB E⟩
  ·exact nX c3 H
 ·exact nX c2 H

end Go.Proofs.Ythgoonohpfoagaa.X
namespace Go.Proofs.Ythgoonohpfoagaa.X
open Go.RowKit Go.Proofs.YthgoonohpfoagaaW.PrintWords Go.Proofs.YthgoonohpfoagaaW.PrintLast Go.Proofs.YthgoonohpfoagaaW.PrintMore
attribute [local go_sem] max2_int min2_int max_two min_two max_three min_three max_four min_four
set_option linter.unusedVariables false
set_option linter.unusedSimpArgs false
set_option maxHeartbeats 8000000
set_option maxRecDepth 100000

/-! ### slices_Index_int_int: function 63 -/
def slices_Index_int_int.l0 : Nat → List Int → Int → Int → Int → Option (Int)
 | 0, _, _, _, _ => none
 | k + 1, x0, x1, x7, x8 => if x8 < x7 then (if 0 ≤ x8 then (if x8 < (x0.length : Int) then (if x1 = (rd x0 x8) then (some x8) else (slices_Index_int_int.l0 k x0 x1 x7 (wrap64 (x8 + 1)))) else (none)) else (none)) else (some (-1))
def slices_Index_int_int.f (k : Nat) (l0 : List Int) (a1 : Int) : Option (Int) := slices_Index_int_int.l0 k l0 a1 (l0.length : Int) 0
theorem slices_Index_int_int.mono_l : ∀ k, (∀ y0 y1 y2 y3, LeO (slices_Index_int_int.l0 k y0 y1 y2 y3) (slices_Index_int_int.l0 (k + 1) y0 y1 y2 y3))
 | 0 => fun _ _ _ _ r h => by simp [slices_Index_int_int.l0] at h
 | k + 1 => by
  have ih0 := slices_Index_int_int.mono_l k
  ·intro y0 y1 y2 y3
   unfold slices_Index_int_int.l0
   repeat' first | (with_reducible first | exact ih0 _ _ _ _ | exact lA | apply lI | refine lB ?_ fun _ => ?_) | exact lN _ | apply lI | refine lB ?_ fun _ => ?_
theorem slices_Index_int_int.mono : ∀ a0 a1 k, LeO (slices_Index_int_int.f k a0 a1) (slices_Index_int_int.f (k + 1) a0 a1) := by
 intro a0 a1 k; have ih0 := slices_Index_int_int.mono_l k
 unfold slices_Index_int_int.f
 repeat' first | (with_reducible first | exact ih0 _ _ _ _ | exact lA | apply lI | refine lB ?_ fun _ => ?_) | exact lN _ | apply lI | refine lB ?_ fun _ => ?_
theorem slices_Index_int_int.calls (k : Nat) (Z : Option Addr) (c0 : Nat) (D : List Int) (J : Int) (r : Int) (w : World) (P : Kd.C (Kd.int .i64) w Z D.length D) (Q : D.length ≤ c0) (h : slices_Index_int_int.f k D J = some r) :
  Calls Try.prog 63 #[.slice Z D.length c0, .int .i64 J] w fun e w' => e = .returned (.int .i64 r) ∧ Drawn0 w w' := by
 have U := aM P; have ae := aM Q; clear P Q; rw [slices_Index_int_int.f] at h; have H := h; clear h; have H' := aM H; clear H
 go_enter Try.func63, Try.ntmps63
 go_wp2
 go_loopg [8] k (fun kq v8 w' => ∃ (z : Int), v8 = .int .i64 z ∧ Aside0 (slices_Index_int_int.l0 kq D J (D.length : Int) z = some r) ∧ Aside0 (kq ≤ k) ∧ Drawn0 w w')
 case atStart => exact ⟨(0), sI, H', ⟨Nat.le_refl _⟩, by repeat (first | exact Drawn0.refl _ | apply Drawn0.step)⟩
 case round =>
  clear H'
  obtain ⟨z, rfl, HA, HK1, ⟨m1, rfl⟩⟩ := hrel; cases gk with
  | zero => exact absurd HA.out (by simp [slices_Index_int_int.l0])
  | succ k1 =>
   have H := HA.out; clear HA; simp only [slices_Index_int_int.l0] at H
   by_cases F : z < (D.length : Int)
   ·rw [if_pos F] at H; have V := dT F; clear F
    by_cases L : 0 ≤ z
    ·rw [if_pos L] at H; have ac := dT L; clear L
     by_cases M : z < (D.length : Int)
     ·rw [if_pos M] at H; have ad := dT M; clear M
      by_cases I : J = (rd D z)
      ·rw [if_pos I] at H; obtain ⟨W, Y⟩ := bq I; clear I; obtain rfl := Option.some.inj H; have A : 0 ≤ (z : Int) := oT aO; have B : z < (D.length : Int) := oT aO; obtain ⟨O, E, G⟩ := Kd.at_int U.out z A B; cases E; replace A := eq_true A; replace B := eq_true B
       go_wp2
       go_ret
       exact ⟨by first | rfl | (simp; done) | (simp [*]; done), by repeat (first | exact Drawn0.refl _ | apply Drawn0.step)⟩
      ·rw [if_neg I] at H; obtain ⟨W, Y⟩ := bn I; have H' := aM H; clear H; have A : 0 ≤ (z : Int) := oT aO; have B : z < (D.length : Int) := oT aO; obtain ⟨O, E, G⟩ := Kd.at_int U.out z A B; cases E; replace A := eq_true A; replace B := eq_true B
       go_wp2
       go_roundg k1
       case measure => have := HK1.out; omega
       case rel => exact ⟨(wrap64 (z + 1)), sI, H', ⟨by have := HK1.out; omega⟩, by repeat (first | exact Drawn0.refl _ | apply Drawn0.step)⟩
     ·exact nX M H
    ·exact nX L H
   ·rw [if_neg F] at H; have V := decide_eq_false F; clear F; obtain rfl := Option.some.inj H
    go_wp2
    go_ret
    exact ⟨by first | rfl | (simp; done) | (simp [*]; done), by repeat (first | exact Drawn0.refl _ | apply Drawn0.step)⟩

/-! ### canon_Classes: function 37 -/
def canon_Classes.l0 : Nat → List Int → List Int → List Int → Int → Int → Option (List Int × Int)
 | 0, _, _, _, _, _ => none
 | k + 1, x5, x6, x19, x20, x21 => if x21 < x20 then (if 0 ≤ x21 then (if x21 < (x19.length : Int) then ((slices_Index_int_int.f k x5 (rd x19 x21)).bind fun t282 => (if x21 < (x6.length : Int) then (canon_Classes.l0 k x5 (x6.set (x21 : Int).toNat t282) x19 x20 (wrap64 (x21 + 1))) else (none))) else (none)) else (none)) else (some (x6, 0))
def canon_Classes.f (k : Nat) (l0_0 : List ByteArray) (l0_1 : List Bool) (l0_2 : List (List Int)) : Option (List Int × Int) := (table_Right.f k l0_0 l0_1 l0_2).bind fun t274 => (if t274 = 0 then ((canon_classes.f k l0_0 l0_1 l0_2).bind fun t275 => (if 0 ≤ (t275.length : Int) then (if ((t275.length : Int) : Int).toNat ≤ 35184372088832 then (canon_Classes.l0 k t275 (List.replicate ((t275.length : Int) : Int).toNat 0) t275 (t275.length : Int) 0) else (none)) else (none))) else (some (([] : List Int), t274)))
theorem canon_Classes.mono_l : ∀ k, (∀ y0 y1 y2 y3 y4, LeO (canon_Classes.l0 k y0 y1 y2 y3 y4) (canon_Classes.l0 (k + 1) y0 y1 y2 y3 y4))
 | 0 => fun _ _ _ _ _ r h => by simp [canon_Classes.l0] at h
 | k + 1 => by
  have ih0 := canon_Classes.mono_l k
  ·intro y0 y1 y2 y3 y4
   unfold canon_Classes.l0
   repeat' first | (with_reducible first | exact ih0 _ _ _ _ _ | exact canon_classes.mono _ _ _ _ | exact slices_Index_int_int.mono _ _ _ | exact table_Right.mono _ _ _ _ | exact lA | apply lI | refine lB ?_ fun _ => ?_) | exact lN _ | apply lI | refine lB ?_ fun _ => ?_
theorem canon_Classes.mono : ∀ a0 a1 a2 k, LeO (canon_Classes.f k a0 a1 a2) (canon_Classes.f (k + 1) a0 a1 a2) := by
 intro a0 a1 a2 k; have ih0 := canon_Classes.mono_l k
 unfold canon_Classes.f
 repeat' first | (with_reducible first | exact ih0 _ _ _ _ _ | exact canon_classes.mono _ _ _ _ | exact slices_Index_int_int.mono _ _ _ | exact table_Right.mono _ _ _ _ | exact lA | apply lI | refine lB ?_ fun _ => ?_) | exact lN _ | apply lI | refine lB ?_ fun _ => ?_
theorem canon_Classes.calls (k : Nat) (M : Option Addr) (O : Nat) (E : List ByteArray) (P : Option Addr) (Q : Nat) (F : List Bool) (U : Option Addr) (V : Nat) (G : List (List Int)) (r1 : List Int) (r2 : Int) (w : World) (av : Kd.C Kd.string w M E.length E) (aw : E.length ≤ O) (ax : Kd.C Kd.bool w P F.length F) (ay : F.length ≤ Q) (az : Kd.C (Kd.slice 3 (Kd.int .i64)) w U G.length G) (aA : G.length ≤ V) (h : canon_Classes.f k E F G = some (r1, r2)) :
  Calls Try.prog 37 #[.agg #[.slice M E.length O, .slice P F.length Q, .slice U G.length V]] w fun e w' => ∃ aV : Value, e = .returned (.tuple #[aV, .int .i64 r2]) ∧ Kd.R (Kd.int .i64) 3 w' w.heap.size (fun _ => True) aV r1 ∧ Below w.heap.size w w' := by
 have hu31 := Try.underlying31; have ah := aM av; have ai := aM aw; clear av aw; have aj := aM ax; have ak := aM ay; clear ax ay; have al := aM az; have am := aM aA; clear az aA; have HB := aM (Below.refl w.heap.size w); rw [canon_Classes.f] at h; have H := h; clear h; replace H := Option.bind_eq_some_iff.mp H; obtain ⟨aq, aW, H⟩ := H; have A2 := aM aW; clear aW
 by_cases c3 : aq = 0
 ·rw [if_pos c3] at H; obtain ⟨a9, ba⟩ := bq c3; clear c3; replace H := Option.bind_eq_some_iff.mp H; obtain ⟨z, aX, H⟩ := H; have A4 := aM aX; clear aX
  by_cases c5 : 0 ≤ (z.length : Int)
  ·rw [if_pos c5] at H; have bK := eq_true c5; have bL := dT c5; clear c5
   by_cases c6 : ((z.length : Int) : Int).toNat ≤ 35184372088832
   ·rw [if_pos c6] at H; have bM := eq_true c6; have bN := dT c6; clear c6; obtain ⟨bb, ac⟩ : ∃ y_ : List Int, y_ = (List.replicate ((z.length : Int) : Int).toNat 0) := ⟨_, rfl⟩
    first | replace H := rI ac H | rw [← ac] at H
    have aQ := aM ac; clear ac; have H' := aM H; clear H
    go_enter Try.func37, Try.ntmps37
    go_wp2_with (first | ((with_reducible refine gate_dst (N := 1) rfl ?_); refine be_ (cs := #[.slice M E.length O, .slice P F.length Q, .slice U G.length V]) (t := 31) ?_; intro an hg w7 hbox hb; have A := aM (hbox); have aR := gE hg (bP0 HB); have D := gE hg (bP0 HB); replace HB := hS0 HB hb; clear hb hbox hg; obtain ⟨bu, bv, bw, bx, bz, bA⟩ := bG3 A) | ((with_reducible refine gate_callee (f := 61) rfl ?_); refine gL_ (some 10) Try.func61 #[.agg #[.slice M E.length O, .slice P F.length Q, .slice U G.length V]] ?_; (with_reducible refine (table_Right.calls k _ _ E _ _ F _ _ G aq _ ?s1 ai.out ?s3 ak.out ?s5 am.out A2.out).mono ?_); (case s1 => exact cB ah HB); (case s3 => exact cB aj HB); (case s5 => exact cB al HB); rintro e w9 ⟨rfl, hb⟩; refine ⟨_, rfl, ?_⟩; replace A := kB A hb; replace HB := hS1 HB D hb; (try clear hb); (try clear hk); obtain ⟨be, bf, bg, bh, bi, bj⟩ := bG3 A) | ((with_reducible refine gate_callee (f := 62) rfl ?_); refine gL_ (some 15) Try.func62 #[.agg #[.slice M E.length O, .slice P F.length Q, .slice U G.length V]] ?_; (with_reducible refine (canon_classes.calls k _ _ E _ _ F _ _ G z _ ?s1 ai.out ?s3 ak.out ?s5 am.out A4.out).mono ?_); (case s1 => exact cB ah HB); (case s3 => exact cB aj HB); (case s5 => exact cB al HB); rintro e bP ⟨bO, rfl, aY, hb⟩; refine ⟨_, rfl, ?_⟩; have aa := rW aY (bP1 HB D); replace A := kB A hb; replace HB := hS1 HB D hb; (try clear hb); (try clear hk); (try clear aY); obtain ⟨ao, J, bc⟩ := sL aa; subst bc) | ((with_reducible refine gate_dst (N := 18) rfl ?_); refine Kd.R_make (Kd.int .i64) _ 3 rfl (N := 18) rfl 42 _ _ rfl (z.length : Int) rfl rfl Try.underlying42 (.int .i64 0) 8 info3 rfl (by decide) (by omega) 0 (ok := fun _ => True) (okp := fun _ => True) rfl (fun _ hk => hk) trivial (oT aO) (Nat.le_trans (Nat.mul_le_mul_right _ (oT aO : (z.length : Int).toNat ≤ 35184372088832)) (by omega)) (Below.refl _ _) (Nat.le_refl _) ?_; intro ab bQ ae hb hg_ hnew_; clear hg_ hnew_; replace ae := nW aQ ae; have aS := rW (Kd.R_new' ae (Kd.R_lt (rP aa))) (bP1 HB D); replace aa := aM (Kd.R_elder' (rP aa) (Kd.R_base ae) hb); replace A := kB A hb; replace HB := hS1 HB D hb; clear hb ae))
    go_loopg [21] k (fun kq bB w' => ∃ (I : List Int) (B : Int), bB = .int .i64 B ∧ Aside0 (canon_Classes.l0 kq z I z (z.length : Int) B = some (r1, r2)) ∧ Aside0 (kq ≤ k) ∧ Aside0 (Kd.R (Kd.int .i64) 3 w' w.heap.size (fun k_ => some k_ ≠ (ab : Value).ownBlock) (.slice ao z.length J) z) ∧ Aside0 (Kd.R (Kd.int .i64) 3 w' w.heap.size (fun k_ => some k_ ≠ ((.slice ao z.length J) : Value).ownBlock ∧ some k_ ≠ ((.slice ao z.length J) : Value).ownBlock) ab I) ∧ Aside0 (Kd.R (Kd.int .i64) 3 w' w.heap.size (fun k_ => some k_ ≠ (ab : Value).ownBlock) (.slice ao z.length J) z) ∧ Aside0 (w'.heap[an]? = some (.cells #[(.slice M E.length O), (.slice P F.length Q), (.slice U G.length V)] 31 (0, 0))) ∧ BA w w')
    case atStart => exact ⟨(bb), (0), sI, H', ⟨Nat.le_refl _⟩, ⟨rM aa (fun _ hk => hk.2)⟩, ⟨by (with_reducible repeat (first | apply Kd.R_alloc | apply Kd.R_drewN | apply Kd.R_drew)); exact Kd.R_mono aS.out (fun _ hk => ⟨hk.2, hk.2⟩)⟩, ⟨rM aa (fun _ hk => hk.2)⟩, kQ A, bT1 HB D⟩
    case round =>
     clear H'
     obtain ⟨I, B, rfl, HA, HK1, Z, L, W, A, HB⟩ := hrel; cases gk with
     | zero => exact absurd HA.out (by simp [canon_Classes.l0])
     | succ k1 =>
      have H := HA.out; clear HA; simp only [canon_Classes.l0] at H
      by_cases ag : B < (z.length : Int)
      ·rw [if_pos ag] at H; have aT := dT ag; clear ag
       by_cases aB : 0 ≤ B
       ·rw [if_pos aB] at H; have bE := dT aB; clear aB
        by_cases aC : B < (z.length : Int)
        ·rw [if_pos aC] at H; have bF := dT aC; clear aC; replace H := Option.bind_eq_some_iff.mp H; obtain ⟨ap, aH, H⟩ := H; have bC := aM aH; clear aH
         by_cases aD : B < (I.length : Int)
         ·rw [if_pos aD] at H; have bG := dT aD; clear aD; obtain ⟨aI, ad⟩ : ∃ y_ : List Int, y_ = (I.set (B : Int).toNat ap) := ⟨_, rfl⟩
          first | replace H := rI ad H | rw [← ad] at H
          have aU := aM ad; clear ad; have H' := aM H; clear H; have ar : 0 ≤ (B : Int) := oT aO; have au : B < (z.length : Int) := oT aO; obtain ⟨Y, bd, bk⟩ := Kd.at_int (rR W).2.2 B ar au; cases bd; replace ar := eq_true ar; replace au := eq_true au
          go_wp2_with (first | ((with_reducible refine gate_callee (f := 63) rfl ?_); refine gL_ (some 30) Try.func63 #[.slice (some Y) z.length J, .int .i64 (rd z B)] ?_; (with_reducible refine (slices_Index_int_int.calls k1 _ _ z (rd z B) ap _ ?s1 (rR Z).2.1 bC.out).mono ?_); (case s1 => exact cO (rR Z).2.2); rintro e w' ⟨rfl, ⟨nd, rfl⟩⟩; refine ⟨_, rfl, ?_⟩; (try (rw [drewN_self wr]; generalize hq_ : World.drewN wr _ = wr; have aZ : Aside0 (Kd.R (Kd.int .i64) 3 wr w.heap.size (fun k_ => some k_ ≠ (ab : Value).ownBlock) (.slice (some Y) z.length J) z) := ⟨by rw [← hq_]; exact (rP W)⟩; have a3 : Aside0 (Kd.R (Kd.int .i64) 3 wr w.heap.size (fun k_ => some k_ ≠ (ab : Value).ownBlock) (.slice (some Y) z.length J) z) := ⟨by rw [← hq_]; exact (rP Z)⟩; have a4 : Aside0 (Kd.R (Kd.int .i64) 3 wr w.heap.size (fun k_ => some k_ ≠ (.slice (some Y) z.length J : Value).ownBlock ∧ some k_ ≠ (.slice (some Y) z.length J : Value).ownBlock) ab I) := ⟨by rw [← hq_]; exact (by (with_reducible repeat (first | apply Kd.R_alloc | apply Kd.R_drewN | apply Kd.R_drew)); exact Kd.R_mono L.out (fun _ hk => ⟨hk.2, hk.1⟩))⟩; have a5 : Aside0 (wr.heap[an]? = some (.cells #[.slice M E.length O, .slice P F.length Q, .slice U G.length V] 31 (0, 0))) := ⟨by rw [← hq_]; exact (kO A.out)⟩; have a6 : BA w wr := ⟨by rw [← hq_]; exact (bP1 HB D)⟩; clear W Z L A HB hq_; have W := aZ; have Z := a3; have L := a4; have A := a5; have HB := a6; clear aZ a3 a4 a5 a6)); have aJ : 0 ≤ (B : Int) := oT aO; have aK : (B : Int) < ((I.length : Int) : Int) := oT aO; obtain ⟨go20, af, aL, aN, gl20, cl20, HG20⟩ := Kd.R_form L.out (by omega); (first | cases aL | (injection aL with ea_ en_ ec_; (first | subst ea_ | (injection ea_ with ea_; subst ea_)); subst ec_; clear en_)); have GB20 := aM aN; have GG20 := aM HG20; clear aN gl20 HG20; obtain ⟨bD, hf20_0⟩ := Kd.R_celln 0 L.out (B : Int) aJ aK; replace aJ := eq_true aJ; replace aK := eq_true aK; obtain ⟨bH, bI⟩ := Kd.R_celln 0 L.out (B : Int) (oT aO) (oT aO); have HP21 := Kd.R_putg L.out (B : Int) ap) | ((with_reducible refine gate_store (t := 3) (p := 31) rfl ?_); refine store_event (t := 3) (p := 31) (v := ?vo_w22) (w1 := (wr.setCell ⟨go20, (B : Int).toNat, none⟩ (.int .i64 ap))) ?hg ?ho ?hn ?hr ?_; (case ho => rfl); (case hg => rfl); (case hn => rfl); (case hr => first | (go_simp; done) | (go_simp; rfl)); intro aP hw; have hg : wr.grownBy aP (some go20) := (by rw [hw]; exact HP21.2); have hp_ : Kd.R (Kd.int .i64) 3 aP w.heap.size (fun k_ => some k_ ≠ (.slice (some Y) z.length J : Value).ownBlock ∧ some k_ ≠ (.slice (some Y) z.length J : Value).ownBlock) (.slice (some ⟨go20, 0, none⟩) I.length af) aI := (by rw [hw, aU.out]; exact HP21.1); clear HP21; replace Z := aM (Kd.R_after (v := (.slice (some ⟨go20, 0, none⟩) I.length af)) (v1 := (.slice (some ⟨go20, 0, none⟩) I.length af)) (ok := (fun _ => True)) (by (with_reducible repeat (first | apply Kd.R_alloc | apply Kd.R_drewN | apply Kd.R_drew)); exact Kd.R_mono Z.out (fun _ hk => ⟨trivial, hk⟩)) hg (.inl rfl)); replace W := aM (Kd.R_after (v := (.slice (some ⟨go20, 0, none⟩) I.length af)) (v1 := (.slice (some ⟨go20, 0, none⟩) I.length af)) (ok := (fun _ => True)) (by (with_reducible repeat (first | apply Kd.R_alloc | apply Kd.R_drewN | apply Kd.R_drew)); exact Kd.R_mono W.out (fun _ hk => ⟨trivial, hk⟩)) hg (.inl rfl)); replace A := kG A hg L; replace L := aM (hp_); replace HB := aM ((by rw [hw]; exact below_set (HB.out) GB20.out : Below w.heap.size w aP)); clear hg hw hp_))
          go_roundg k1
          case measure => have := HK1.out; omega
          case rel => exact ⟨(aI), (wrap64 (B + 1)), sI, H', ⟨by have := HK1.out; omega⟩, ⟨rM Z (fun _ hk => hk.2)⟩, rQ L, ⟨rM W (fun _ hk => hk.2)⟩, kQ A, bT1 HB D⟩
         ·exact nX aD H
        ·exact nX aC H
       ·exact nX aB H
      ·rw [if_neg ag] at H; have aT := decide_eq_false ag; clear ag; simp only [Option.some.injEq, Prod.mk.injEq] at H; obtain ⟨rfl, rfl⟩ := H
       go_wp2
       go_ret2
       exact ⟨_, eW, rM L (fun _ hk => trivial), bS1 HB.out D.out⟩
   ·exact nX c6 H
  ·exact nX c5 H
 ·rw [if_neg c3] at H; obtain ⟨a9, ba⟩ := bn c3; simp only [Option.some.injEq, Prod.mk.injEq] at H; obtain ⟨rfl, rfl⟩ := H
  go_enter Try.func37, Try.ntmps37
  go_wp2_with (first | ((with_reducible refine gate_dst (N := 1) rfl ?_); refine be_ (cs := #[.slice M E.length O, .slice P F.length Q, .slice U G.length V]) (t := 31) ?_; intro an hg bR hbox hb; have A := aM (hbox); have aR := gE hg (bP0 HB); have D := gE hg (bP0 HB); replace HB := hS0 HB hb; clear hb hbox hg; obtain ⟨bl, bm, bo, bp, br, bs⟩ := bG3 A) | ((with_reducible refine gate_callee (f := 61) rfl ?_); refine gL_ (some 10) Try.func61 #[.agg #[.slice M E.length O, .slice P F.length Q, .slice U G.length V]] ?_; (with_reducible refine (table_Right.calls k _ _ E _ _ F _ _ G aq _ ?s1 ai.out ?s3 ak.out ?s5 am.out A2.out).mono ?_); (case s1 => exact cB ah HB); (case s3 => exact cB aj HB); (case s5 => exact cB al HB); rintro e bS ⟨rfl, hb⟩; refine ⟨_, rfl, ?_⟩; replace A := kB A hb; replace HB := hS1 HB D hb; (try clear hb)))
  go_ret2
  exact ⟨_, eW, by first | exact Kd.R_nil _ _ _ _ _ | exact Kd.N_nil _ _ _ _ _ | exact Kd.V_nil _ _ _ _ _ | exact Kd.Q_nil _ _ _ _ _ | exact Kd.S_nil _ _ _ _ _, bS1 HB.out D.out⟩

end Go.Proofs.Ythgoonohpfoagaa.X
