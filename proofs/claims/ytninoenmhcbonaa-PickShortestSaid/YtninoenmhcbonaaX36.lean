/- What the functions of this seat compute, and that the program's calls come to just that: written by this session's own program out of the translation; no condition. -/
import Derived.Test.YtninoenmhcbonaaX0
import Derived.Test.YtninoenmhcbonaaX31
import Derived.Test.YtninoenmhcbonaaX1
import Derived.Test.YtninoenmhcbonaaX20
namespace Go.Proofs.Ytninoenmhcbonaa.X
open Go.RowKit Go.Proofs.YtninoenmhcbonaaW.PrintWords Go.Proofs.YtninoenmhcbonaaW.PrintLast Go.Proofs.YtninoenmhcbonaaW.PrintMore
attribute [local go_sem] max2_int min2_int max_two min_two max_three min_three max_four min_four
set_option linter.unusedVariables false
set_option linter.unusedSimpArgs false
set_option maxHeartbeats 8000000
set_option maxRecDepth 100000

/-! ### tabardref12_Frame: function 34 -/
def tabardref12_Frame.f (k : Nat) (l0 : List ByteArray) (a1 : Int) : Option (Bool) := if (l0.length : Int) ≤ 6 then ((tabardref04_Rises.f k l0).bind fun t480 => (if t480 = true then (if a1 ≥ 1 then (some (decide (a1 ≤ 256))) else (some false)) else (some false))) else (some false)
theorem tabardref12_Frame.mono : ∀ a0 a1 k, LeO (tabardref12_Frame.f k a0 a1) (tabardref12_Frame.f (k + 1) a0 a1) := by
 intro a0 a1 k
 unfold tabardref12_Frame.f
 repeat' first | (with_reducible first | exact tabardref04_Rises.mono _ _ | exact lA | apply lI | refine lB ?_ fun _ => ?_) | exact lN _ | apply lI | refine lB ?_ fun _ => ?_
theorem tabardref12_Frame.calls (k : Nat) (R : Option Addr) (U : Nat) (z : List ByteArray) (L : Int) (r : Bool) (w : World) (G : Kd.C Kd.string w R z.length z) (I : z.length ≤ U) (h : tabardref12_Frame.f k z L = some r) :
  Calls Try.prog 34 #[.slice R z.length U, .int .i64 L] w fun e w' => e = .returned (.bool r) ∧ Below w.heap.size w w' := by
 have D := aM G; have E := aM I; clear G I; have HB := aM (Below.refl w.heap.size w); rw [tabardref12_Frame.f] at h; have H := h; clear h
 by_cases A : (z.length : Int) ≤ 6
 ·rw [if_pos A] at H; have M := dT A; have N : decide (z.length ≤ 6) = true := dT (by omega); clear A; replace H := Option.bind_eq_some_iff.mp H; obtain ⟨O, J, H⟩ := H; have P := aM J; clear J
  by_cases F : O = true
  ·subst F
   rw [if_pos rfl] at H
   by_cases B : L ≥ 1
   ·rw [if_pos B] at H; have Q := dT B; clear B; obtain rfl := Option.some.inj H
    go_enter Try.func34, Try.ntmps34
    go_wp2_with (first | (go_at_call 62; (with_reducible refine (tabardref04_Rises.calls k _ _ z true _ ?s1 E.out P.out).mono ?_); (case s1 => exact cO D.out); rintro e V ⟨rfl, hb⟩; replace HB := hS0 HB hb; (try clear hb)))
    go_ret
    exact ⟨eW, bO HB.out⟩
   ·rw [if_neg B] at H; have Q := decide_eq_false B; clear B; obtain rfl := Option.some.inj H
    go_enter Try.func34, Try.ntmps34
    go_wp2_with (first | (go_at_call 62; (with_reducible refine (tabardref04_Rises.calls k _ _ z true _ ?s1 E.out P.out).mono ?_); (case s1 => exact cO D.out); rintro e W ⟨rfl, hb⟩; replace HB := hS0 HB hb; (try clear hb)))
    go_ret
    exact ⟨eW, bO HB.out⟩
  ·replace F := Bool.eq_false_iff.mpr F; subst F
   rw [if_neg nF] at H; obtain rfl := Option.some.inj H
   go_enter Try.func34, Try.ntmps34
   go_wp2_with (first | (go_at_call 62; (with_reducible refine (tabardref04_Rises.calls k _ _ z false _ ?s1 E.out P.out).mono ?_); (case s1 => exact cO D.out); rintro e Y ⟨rfl, hb⟩; replace HB := hS0 HB hb; (try clear hb)))
   go_ret
   exact ⟨eW, bO HB.out⟩
 ·rw [if_neg A] at H; have M := decide_eq_false A; have N : decide (z.length ≤ 6) = false := decide_eq_false (by omega); clear A; obtain rfl := Option.some.inj H
  go_enter Try.func34, Try.ntmps34
  go_wp2
  go_ret
  exact ⟨eW, bO HB.out⟩

/-! ### tabardref11_At: function 63 -/
def tabardref11_At.l0 : Nat → List (S73) → Int → Int → Option (Int × Bool)
 | 0, _, _, _ => none
 | k + 1, x0, x1, x6 => if x6 < (x0.length : Int) then (if 0 ≤ x6 then (if (Go.bits .and .i64 x1 ((rd_T73 x0 x6).f0)) = ((rd_T73 x0 x6).f1) then (some ((rd_T73 x0 x6).f2, true)) else (tabardref11_At.l0 k x0 x1 (wrap64 (x6 + 1)))) else (none)) else (some (0, false))
def tabardref11_At.f (k : Nat) (l0 : List (S73)) (a1 : Int) : Option (Int × Bool) := tabardref11_At.l0 k l0 a1 0
theorem tabardref11_At.mono_l : ∀ k, (∀ y0 y1 y2, LeO (tabardref11_At.l0 k y0 y1 y2) (tabardref11_At.l0 (k + 1) y0 y1 y2))
 | 0 => fun _ _ _ r h => by simp [tabardref11_At.l0] at h
 | k + 1 => by
  have ih0 := tabardref11_At.mono_l k
  ·intro y0 y1 y2
   unfold tabardref11_At.l0
   repeat' first | (with_reducible first | exact ih0 _ _ _ | exact lA | apply lI | refine lB ?_ fun _ => ?_) | exact lN _ | apply lI | refine lB ?_ fun _ => ?_
theorem tabardref11_At.mono : ∀ a0 a1 k, LeO (tabardref11_At.f k a0 a1) (tabardref11_At.f (k + 1) a0 a1) := by
 intro a0 a1 k; have ih0 := tabardref11_At.mono_l k
 unfold tabardref11_At.f
 repeat' first | (with_reducible first | exact ih0 _ _ _ | exact lA | apply lI | refine lB ?_ fun _ => ?_) | exact lN _ | apply lI | refine lB ?_ fun _ => ?_
theorem tabardref11_At.calls (k : Nat) (A0 : Option Addr) (c0 : Nat) (F : List (S73)) (a1 : Int) (r1 : Int) (r2 : Bool) (w : World) (ad : Kd.C k73 w A0 F.length F) (ae : F.length ≤ c0) (h : tabardref11_At.f k F a1 = some (r1, r2)) :
  Calls Try.prog 63 #[.slice A0 F.length c0, .int .i64 a1] w fun e w' => e = .returned (.tuple #[.int .i64 r1, .bool r2]) ∧ Drawn0 w w' := by
 have J := aM ad; have au := aM ae; clear ad ae; rw [tabardref11_At.f] at h; have H := h; clear h; have H' := aM H; clear H
 go_enter Try.func63, Try.ntmps63
 go_wp2
 repeat (go_quiet (fail); try go_wp2)
 go_loopg [6] k (fun kq v6 w' => ∃ (z : Int), v6 = .int .i64 z ∧ Aside0 (tabardref11_At.l0 kq F a1 z = some (r1, r2)) ∧ Aside0 (kq ≤ k) ∧ Drawn0 w w')
 case atStart => exact ⟨(0), sI, H', ⟨Nat.le_refl _⟩, by repeat (first | exact Drawn0.refl _ | apply Drawn0.step)⟩
 case round =>
  clear H'
  obtain ⟨z, rfl, HA, HK1, ⟨m1, rfl⟩⟩ := hrel; cases gk with
  | zero => exact absurd HA.out (by simp [tabardref11_At.l0])
  | succ k1 =>
   have H := HA.out; clear HA; simp only [tabardref11_At.l0] at H
   by_cases P : z < (F.length : Int)
   ·rw [if_pos P] at H; have ah := dT P; clear P
    by_cases c4 : 0 ≤ z
    ·rw [if_pos c4] at H; have ar := dT c4; clear c4
     by_cases Z : (Go.bits .and .i64 a1 ((rd_T73 F z).f0)) = ((rd_T73 F z).f1)
     ·rw [if_pos Z] at H; obtain ⟨ai, aj⟩ := bq Z; clear Z; simp only [Option.some.injEq, Prod.mk.injEq] at H; obtain ⟨rfl, rfl⟩ := H; have A : 0 ≤ (z : Int) := oT aO; have B : z < (F.length : Int) := oT aO; obtain ⟨G, L, Q, R, U⟩ := at_T73 J.out z A B; cases L; replace A := eq_true A; replace B := eq_true B; have D : 0 ≤ (z : Int) := oT aO; have E : z < (F.length : Int) := oT aO; obtain ⟨I, M, V, W, Y⟩ := at_T73 J.out z D E; have he_ : G = I := (by injection M); subst he_; replace D := eq_true D; replace E := eq_true E; have N : 0 ≤ (z : Int) := oT aO; have O : z < (F.length : Int) := oT aO; obtain ⟨ac, ak, al, am, an⟩ := at_T73 J.out z N O; have he_ : G = ac := (by injection ak); subst he_; replace N := eq_true N; replace O := eq_true O
      go_wp2
      repeat (go_quiet (fail); try go_wp2)
      go_ret2
      exact ⟨by first | rfl | (simp; done) | (simp [*]; done), by repeat (first | exact Drawn0.refl _ | apply Drawn0.step)⟩
     ·rw [if_neg Z] at H; obtain ⟨ai, aj⟩ := bn Z; have H' := aM H; clear H; have A : 0 ≤ (z : Int) := oT aO; have B : z < (F.length : Int) := oT aO; obtain ⟨G, L, Q, R, U⟩ := at_T73 J.out z A B; cases L; replace A := eq_true A; replace B := eq_true B; have D : 0 ≤ (z : Int) := oT aO; have E : z < (F.length : Int) := oT aO; obtain ⟨I, M, V, W, Y⟩ := at_T73 J.out z D E; have he_ : G = I := (by injection M); subst he_; replace D := eq_true D; replace E := eq_true E
      go_wp2
      repeat (go_quiet (fail); try go_wp2)
      go_roundg k1
      case measure => have := HK1.out; omega
      case rel => exact ⟨(wrap64 (z + 1)), sI, H', ⟨by have := HK1.out; omega⟩, by repeat (first | exact Drawn0.refl _ | apply Drawn0.step)⟩
    ·exact nX c4 H
   ·rw [if_neg P] at H; have ah := decide_eq_false P; clear P; simp only [Option.some.injEq, Prod.mk.injEq] at H; obtain ⟨rfl, rfl⟩ := H
    go_wp2
    repeat (go_quiet (fail); try go_wp2)
    go_ret2
    exact ⟨by first | rfl | (simp; done) | (simp [*]; done), by repeat (first | exact Drawn0.refl _ | apply Drawn0.step)⟩

end Go.Proofs.Ytninoenmhcbonaa.X
namespace Go.Proofs.Ytninoenmhcbonaa.X
open Go.RowKit Go.Proofs.YtninoenmhcbonaaW.PrintWords Go.Proofs.YtninoenmhcbonaaW.PrintLast Go.Proofs.YtninoenmhcbonaaW.PrintMore
attribute [local go_sem] max2_int min2_int max_two min_two max_three min_three max_four min_four
set_option linter.unusedVariables false
set_option linter.unusedSimpArgs false
set_option maxHeartbeats 8000000
set_option maxRecDepth 100000

attribute [local go_sem high] eqA73
/-! ### tabardref11_Unpack: function 36 -/
mutual
def tabardref11_Unpack.j0 : Nat → List (S73) → Int → Bool → Option (List Int × Int)
 | 0, _, _, _ => none
 | k + 1, x0, x1, x19 => if x19 = true then (some (([] : List Int), 150)) else (tabardref11_Unpack.l0 k x0 x1 1 0)
def tabardref11_Unpack.l0 : Nat → List (S73) → Int → Int → Int → Option (List Int × Int)
 | 0, _, _, _, _ => none
 | k + 1, x0, x1, x6, x7 => if x7 < x1 then (tabardref11_Unpack.l0 k x0 x1 (wrap64 (x6 * 2)) (wrap64 (x7 + 1))) else (if (x0.length : Int) > x6 then (some (([] : List Int), 3)) else (tabardref11_Unpack.l1 k x0 x6 ([] : List Int) 0))
def tabardref11_Unpack.l1 : Nat → List (S73) → Int → List Int → Int → Option (List Int × Int)
 | 0, _, _, _, _ => none
 | k + 1, x0, x6, x8, x9 => if x9 < x6 then ((tabardref11_At.f k x0 x9).bind fun bt484 => (if bt484.2 = true then (if bt484.1 < 0 then (some (([] : List Int), 3)) else (if x8.length < 17592186044416 then (tabardref11_Unpack.l1 k x0 x6 (x8 ++ [bt484.1]) (wrap64 (x9 + 1))) else (none))) else (some (([] : List Int), 3)))) else ((tabardref11_Cubes.f k x8 0 0).bind fun t489 => (if (t489.length : Int) = (x0.length : Int) then (tabardref11_Unpack.l2 k x0 x8 t489 0) else (some (([] : List Int), 3))))
def tabardref11_Unpack.l2 : Nat → List (S73) → List Int → List (S73) → Int → Option (List Int × Int)
 | 0, _, _, _, _ => none
 | k + 1, x0, x8, x12, x13 => if x13 < (x0.length : Int) then (if 0 ≤ x13 then (if x13 < (x12.length : Int) then (if (!(((rd_T73 x12 x13).f0) == ((rd_T73 x0 x13).f0)) || (!(((rd_T73 x12 x13).f1) == ((rd_T73 x0 x13).f1)) || (!(((rd_T73 x12 x13).f2) == ((rd_T73 x0 x13).f2))))) = true then (some (([] : List Int), 3)) else (tabardref11_Unpack.l2 k x0 x8 x12 (wrap64 (x13 + 1)))) else (none)) else (none)) else (some (x8, 0))
end
def tabardref11_Unpack.f (k : Nat) (l0 : List (S73)) (a1 : Int) : Option (List Int × Int) := if a1 < 0 then (tabardref11_Unpack.j0 k l0 a1 true) else (tabardref11_Unpack.j0 k l0 a1 (decide (a1 > 6)))
theorem tabardref11_Unpack.mono_l : ∀ k, (∀ y0 y1 y2, LeO (tabardref11_Unpack.j0 k y0 y1 y2) (tabardref11_Unpack.j0 (k + 1) y0 y1 y2)) ∧ (∀ y0 y1 y2 y3, LeO (tabardref11_Unpack.l0 k y0 y1 y2 y3) (tabardref11_Unpack.l0 (k + 1) y0 y1 y2 y3)) ∧ (∀ y0 y1 y2 y3, LeO (tabardref11_Unpack.l1 k y0 y1 y2 y3) (tabardref11_Unpack.l1 (k + 1) y0 y1 y2 y3)) ∧ (∀ y0 y1 y2 y3, LeO (tabardref11_Unpack.l2 k y0 y1 y2 y3) (tabardref11_Unpack.l2 (k + 1) y0 y1 y2 y3))
 | 0 => ⟨fun _ _ _ r h => by simp [tabardref11_Unpack.j0] at h, fun _ _ _ _ r h => by simp [tabardref11_Unpack.l0] at h, fun _ _ _ _ r h => by simp [tabardref11_Unpack.l1] at h, fun _ _ _ _ r h => by simp [tabardref11_Unpack.l2] at h⟩
 | k + 1 => by
  obtain ⟨ih0, ih1, ih2, ih3⟩ := tabardref11_Unpack.mono_l k; refine ⟨?_, ?_, ?_, ?_⟩
  ·intro y0 y1 y2
   unfold tabardref11_Unpack.j0
   repeat' first | (with_reducible first | exact ih0 _ _ _ | exact ih1 _ _ _ _ | exact ih2 _ _ _ _ | exact ih3 _ _ _ _ | exact tabardref11_At.mono _ _ _ | exact tabardref11_Cubes.mono _ _ _ _ | exact lA | apply lI | refine lB ?_ fun _ => ?_) | exact lN _ | apply lI | refine lB ?_ fun _ => ?_
  ·intro y0 y1 y2 y3
   unfold tabardref11_Unpack.l0
   repeat' first | (with_reducible first | exact ih0 _ _ _ | exact ih1 _ _ _ _ | exact ih2 _ _ _ _ | exact ih3 _ _ _ _ | exact tabardref11_At.mono _ _ _ | exact tabardref11_Cubes.mono _ _ _ _ | exact lA | apply lI | refine lB ?_ fun _ => ?_) | exact lN _ | apply lI | refine lB ?_ fun _ => ?_
  ·intro y0 y1 y2 y3
   unfold tabardref11_Unpack.l1
   repeat' first | (with_reducible first | exact ih0 _ _ _ | exact ih1 _ _ _ _ | exact ih2 _ _ _ _ | exact ih3 _ _ _ _ | exact tabardref11_At.mono _ _ _ | exact tabardref11_Cubes.mono _ _ _ _ | exact lA | apply lI | refine lB ?_ fun _ => ?_) | exact lN _ | apply lI | refine lB ?_ fun _ => ?_
  ·intro y0 y1 y2 y3
   unfold tabardref11_Unpack.l2
   repeat' first | (with_reducible first | exact ih0 _ _ _ | exact ih1 _ _ _ _ | exact ih2 _ _ _ _ | exact ih3 _ _ _ _ | exact tabardref11_At.mono _ _ _ | exact tabardref11_Cubes.mono _ _ _ _ | exact lA | apply lI | refine lB ?_ fun _ => ?_) | exact lN _ | apply lI | refine lB ?_ fun _ => ?_
theorem tabardref11_Unpack.mono : ∀ a0 a1 k, LeO (tabardref11_Unpack.f k a0 a1) (tabardref11_Unpack.f (k + 1) a0 a1) := by
 intro a0 a1 k; obtain ⟨ih0, ih1, ih2, ih3⟩ := tabardref11_Unpack.mono_l k
 unfold tabardref11_Unpack.f
 repeat' first | (with_reducible first | exact ih0 _ _ _ | exact ih1 _ _ _ _ | exact ih2 _ _ _ _ | exact ih3 _ _ _ _ | exact tabardref11_At.mono _ _ _ | exact tabardref11_Cubes.mono _ _ _ _ | exact lA | apply lI | refine lB ?_ fun _ => ?_) | exact lN _ | apply lI | refine lB ?_ fun _ => ?_
theorem tabardref11_Unpack.calls (k : Nat) (A0 : Option Addr) (c0 : Nat) (F : List (S73)) (a1 : Int) (r1 : List Int) (r2 : Int) (w : World) (a8 : Kd.C k73 w A0 F.length F) (a9 : F.length ≤ c0) (h : tabardref11_Unpack.f k F a1 = some (r1, r2)) :
  Calls Try.prog 36 #[.slice A0 F.length c0, .int .i64 a1] w fun e w' => ∃ ba : Value, e = .returned (.tuple #[ba, .int .i64 r2]) ∧ Kd.R (Kd.int .i64) 3 w' w.heap.size (fun _ => True) ba r1 ∧ Below w.heap.size w w' := by
 have hu73 := Try.underlying73; have O := aM a8; have Y := aM a9; clear a8 a9; have HB := aM (Below.refl w.heap.size w); rw [tabardref11_Unpack.f] at h; have H := h; clear h; have aQ := aM H; clear H
 go_enter Try.func36, Try.ntmps36
 go_upto_region 1 with (fail)
 repeat (go_quiet (fail); go_upto_region 1 with (fail))
 go_cut [19] (fun bs wc => ∃ (kq : Nat) (aa : Bool), bs = .bool aa ∧ Aside0 (tabardref11_Unpack.j0 kq F a1 aa = some (r1, r2)) ∧ Aside0 (kq ≤ k) ∧ BA w wc)
 case first =>
  have H := aQ.out; clear aQ
  by_cases c4 : a1 < 0
  ·rw [if_pos c4] at H; have ac := dT c4; clear c4
   (first | rw [ac] | (simp only [i64_w, i32_w]; rw [ac]) | skip)
   have H' := aM H; clear H
   go_wp2
   repeat (go_quiet (fail); try go_wp2)
   go_meet
   case rel => exact ⟨_, (true), sI, H', ⟨by first | omega | exact Nat.le_refl _⟩, bT0 HB⟩
  ·rw [if_neg c4] at H; have ac := decide_eq_false c4; clear c4
   (first | rw [ac] | (simp only [i64_w, i32_w]; rw [ac]) | skip)
   have H' := aM H; clear H
   go_wp2
   repeat (go_quiet (fail); try go_wp2)
   go_meet
   case rel => exact ⟨_, (decide (a1 > 6)), sI, H', ⟨by first | omega | exact Nat.le_refl _⟩, bT0 HB⟩
 case rest =>
  clear aQ
  obtain ⟨kq, aa, rfl, HA, HJ2, HB⟩ := hcut; cases kq with
  | zero => exact absurd HA.out (by simp [tabardref11_Unpack.j0])
  | succ bb =>
   have H := HA.out; clear HA; simp only [tabardref11_Unpack.j0] at H
   by_cases c5 : aa = true
   ·subst c5
    rw [if_pos rfl] at H; simp only [Option.some.injEq, Prod.mk.injEq] at H; obtain ⟨rfl, rfl⟩ := H
    go_wp2
    repeat (go_quiet (fail); try go_wp2)
    go_ret2
    exact ⟨_, eW, by first | exact Kd.R_nil _ _ _ _ _ | exact Kd.N_nil _ _ _ _ _ | exact Kd.V_nil _ _ _ _ _ | exact Kd.Q_nil _ _ _ _ _ | exact Kd.S_nil _ _ _ _ _, bO HB.out⟩
   ·replace c5 := Bool.eq_false_iff.mpr c5; subst c5
    rw [if_neg nF] at H; have H' := aM H; clear H
    go_wp2
    repeat (go_quiet (fail); try go_wp2)
    go_loopg [6, 7] bb (fun kq v6 v7 w' => ∃ (P : Int) (ad : Int), v6 = .int .i64 P ∧ v7 = .int .i64 ad ∧ Aside0 (tabardref11_Unpack.l0 kq F a1 P ad = some (r1, r2)) ∧ Aside0 (kq ≤ bb) ∧ BA w w')
    case atStart => exact ⟨(1), (0), sI, sI, H', ⟨Nat.le_refl _⟩, bT0 HB⟩
    case round =>
     clear H'
     obtain ⟨P, ad, rfl, rfl, HA, HK2, HB⟩ := hrel; cases gk with
     | zero => exact absurd HA.out (by simp [tabardref11_Unpack.l0])
     | succ k2 =>
      have H := HA.out; clear HA; simp only [tabardref11_Unpack.l0] at H
      by_cases c6 : ad < a1
      ·rw [if_pos c6] at H; have bg := dT c6; clear c6; have H' := aM H; clear H
       go_wp2
       repeat (go_quiet (fail); try go_wp2)
       go_roundg k2
       case measure => have := HJ2.out; have := HK2.out; omega
       case rel => exact ⟨(wrap64 (P * 2)), (wrap64 (ad + 1)), sI, sI, H', ⟨by have := HJ2.out; have := HK2.out; omega⟩, bT0 HB⟩
      ·rw [if_neg c6] at H; have bg := decide_eq_false c6; clear c6
       by_cases c7 : (F.length : Int) > P
       ·rw [if_pos c7] at H; have bh := dT c7; clear c7; simp only [Option.some.injEq, Prod.mk.injEq] at H; obtain ⟨rfl, rfl⟩ := H
        go_wp2
        repeat (go_quiet (fail); try go_wp2)
        go_ret2
        exact ⟨_, eW, by first | exact Kd.R_nil _ _ _ _ _ | exact Kd.N_nil _ _ _ _ _ | exact Kd.V_nil _ _ _ _ _ | exact Kd.Q_nil _ _ _ _ _ | exact Kd.S_nil _ _ _ _ _, bO HB.out⟩
       ·rw [if_neg c7] at H; have bh := decide_eq_false c7; clear c7; have H' := aM H; clear H
        go_wp2
        repeat (go_quiet (fail); try go_wp2)
        go_loopg [8, 9] k2 (fun kq v8 v9 w' => ∃ (D : List Int) (I : Int), v9 = .int .i64 I ∧ Aside0 (tabardref11_Unpack.l1 kq F P D I = some (r1, r2)) ∧ Aside0 (kq ≤ k2) ∧ RA (Kd.int .i64) 3 w' w v8 D ∧ BA w w')
        case atStart => exact ⟨(([] : List Int)), (0), sI, H', ⟨Nat.le_refl _⟩, ⟨by first | exact Kd.R_nil _ _ _ _ _ | exact Kd.N_nil _ _ _ _ _ | exact Kd.V_nil _ _ _ _ _ | exact Kd.Q_nil _ _ _ _ _ | exact Kd.S_nil _ _ _ _ _⟩, bT0 HB⟩
        case round =>
         clear H'
         obtain ⟨D, I, rfl, HA, HK3, A, HB⟩ := hrel; cases gk with
         | zero => exact absurd HA.out (by simp [tabardref11_Unpack.l1])
         | succ k3 =>
          have H := HA.out; clear HA; simp only [tabardref11_Unpack.l1] at H
          by_cases c8 : I < P
          ·rw [if_pos c8] at H; have bi := dT c8; clear c8; replace H := Option.bind_eq_some_iff.mp H; obtain ⟨⟨E, aR⟩, bc, H⟩ := H; replace H : (if aR = true then (if E < 0 then (some (([] : List Int), 3)) else (if D.length < 17592186044416 then (tabardref11_Unpack.l1 k3 F P (D ++ [E]) (wrap64 (I + 1))) else (none))) else (some (([] : List Int), 3))) = some (r1, r2) := H; have A9 := aM bc; clear bc
           by_cases az : aR = true
           ·subst az
            rw [if_pos rfl] at H
            by_cases ah : E < 0
            ·rw [if_pos ah] at H; have aY := dT ah; clear ah; simp only [Option.some.injEq, Prod.mk.injEq] at H; obtain ⟨rfl, rfl⟩ := H
             go_wp2_with (first | (go_at_call 63; (with_reducible refine (tabardref11_At.calls k3 _ _ F I E true _ ?s1 Y.out A9.out).mono ?_); (case s1 => exact cB O HB); rintro e w' ⟨rfl, ⟨nd, rfl⟩⟩; (try exact dN)))
             repeat (go_quiet (first | (go_at_call 63; (with_reducible refine (tabardref11_At.calls k3 _ _ F I E true _ ?s1 Y.out A9.out).mono ?_); (case s1 => exact cB O HB); rintro e w' ⟨rfl, ⟨nd, rfl⟩⟩; (try exact dN))); try go_wp2_with (first | (go_at_call 63; (with_reducible refine (tabardref11_At.calls k3 _ _ F I E true _ ?s1 Y.out A9.out).mono ?_); (case s1 => exact cB O HB); rintro e w' ⟨rfl, ⟨nd, rfl⟩⟩; (try exact dN))))
             go_ret2
             exact ⟨_, eW, by first | exact Kd.R_nil _ _ _ _ _ | exact Kd.N_nil _ _ _ _ _ | exact Kd.V_nil _ _ _ _ _ | exact Kd.Q_nil _ _ _ _ _ | exact Kd.S_nil _ _ _ _ _, bO HB.out⟩
            ·rw [if_neg ah] at H; have aY := decide_eq_false ah; clear ah
             by_cases aA : D.length < 17592186044416
             ·rw [if_pos aA] at H; have am := aM aA; clear aA; obtain ⟨bj, ab⟩ : ∃ y_ : List Int, y_ = (D ++ [E]) := ⟨_, rfl⟩
              first | replace H := rI ab H | rw [← ab] at H
              have an := aM ab; clear ab; have H' := aM H; clear H
              go_wp2_with (first | (go_at_call 63; (with_reducible refine (tabardref11_At.calls k3 _ _ F I E true _ ?s1 Y.out A9.out).mono ?_); (case s1 => exact cB O HB); rintro e w' ⟨rfl, ⟨nd, rfl⟩⟩; (try exact dN)) | ((with_reducible refine gate_builtin (b := .append) (xs := #[.tmp 48, .tmp 50]) rfl ?_); at_builtin; refine Kd.R_append (Kd.int .i64) (w0 := w) w.heap.size rfl (.tmp 48) (.tmp 50) 24 3 (.int .i64 0) 8 rfl Try.underlying24 info3 rfl (by decide) (by omega) u8 D E [.int .i64 E] (fun _ => True) (fun _ => False) rfl rfl ?aP (fun _ hk => hk.elim) ?aF ?aO ?aB ?aS ?aL ?_; (case aP => exact rfl); (case aB => exact (bP0 HB)); (case aF => exact (fun _ _ => trivial)); (case aO => exact (rP A)); (case aS => exact (below_size (bP0 HB))); (case aL => have := am.out; omega); intro aT bd ho hb hg hat; rw [← an.out] at ho; replace HB := aM (hb); have ao := aM (ho); clear A; clear ho hb hg hat))
              repeat (go_quiet (first | (go_at_call 63; (with_reducible refine (tabardref11_At.calls k3 _ _ F I E true _ ?s1 Y.out A9.out).mono ?_); (case s1 => exact cB O HB); rintro e w' ⟨rfl, ⟨nd, rfl⟩⟩; (try exact dN)) | ((with_reducible refine gate_builtin (b := .append) (xs := #[.tmp 48, .tmp 50]) rfl ?_); at_builtin; refine Kd.R_append (Kd.int .i64) (w0 := w) w.heap.size rfl (.tmp 48) (.tmp 50) 24 3 (.int .i64 0) 8 rfl Try.underlying24 info3 rfl (by decide) (by omega) u8 D E [.int .i64 E] (fun _ => True) (fun _ => False) rfl rfl ?aP (fun _ hk => hk.elim) ?aF ?aO ?aB ?aS ?aL ?_; (case aP => exact rfl); (case aB => exact (bP0 HB)); (case aF => exact (fun _ _ => trivial)); (case aO => exact (rP A)); (case aS => exact (below_size (bP0 HB))); (case aL => have := am.out; omega); intro aT bd ho hb hg hat; rw [← an.out] at ho; replace HB := aM (hb); have ao := aM (ho); clear A; clear ho hb hg hat)); try go_wp2_with (first | (go_at_call 63; (with_reducible refine (tabardref11_At.calls k3 _ _ F I E true _ ?s1 Y.out A9.out).mono ?_); (case s1 => exact cB O HB); rintro e w' ⟨rfl, ⟨nd, rfl⟩⟩; (try exact dN)) | ((with_reducible refine gate_builtin (b := .append) (xs := #[.tmp 48, .tmp 50]) rfl ?_); at_builtin; refine Kd.R_append (Kd.int .i64) (w0 := w) w.heap.size rfl (.tmp 48) (.tmp 50) 24 3 (.int .i64 0) 8 rfl Try.underlying24 info3 rfl (by decide) (by omega) u8 D E [.int .i64 E] (fun _ => True) (fun _ => False) rfl rfl ?aP (fun _ hk => hk.elim) ?aF ?aO ?aB ?aS ?aL ?_; (case aP => exact rfl); (case aB => exact (bP0 HB)); (case aF => exact (fun _ _ => trivial)); (case aO => exact (rP A)); (case aS => exact (below_size (bP0 HB))); (case aL => have := am.out; omega); intro aT bd ho hb hg hat; rw [← an.out] at ho; replace HB := aM (hb); have ao := aM (ho); clear A; clear ho hb hg hat)))
              go_roundg k3
              case measure => have := HJ2.out; have := HK2.out; have := HK3.out; omega
              case rel => exact ⟨(bj), (wrap64 (I + 1)), sI, H', ⟨by have := HJ2.out; have := HK2.out; have := HK3.out; omega⟩, rQ ao, bT0 HB⟩
             ·exact nX aA H
           ·replace az := Bool.eq_false_iff.mpr az; subst az
            rw [if_neg nF] at H; simp only [Option.some.injEq, Prod.mk.injEq] at H; obtain ⟨rfl, rfl⟩ := H
            go_wp2_with (first | (go_at_call 63; (with_reducible refine (tabardref11_At.calls k3 _ _ F I E false _ ?s1 Y.out A9.out).mono ?_); (case s1 => exact cB O HB); rintro e w' ⟨rfl, ⟨nd, rfl⟩⟩; (try exact dN)))
            repeat (go_quiet (first | (go_at_call 63; (with_reducible refine (tabardref11_At.calls k3 _ _ F I E false _ ?s1 Y.out A9.out).mono ?_); (case s1 => exact cB O HB); rintro e w' ⟨rfl, ⟨nd, rfl⟩⟩; (try exact dN))); try go_wp2_with (first | (go_at_call 63; (with_reducible refine (tabardref11_At.calls k3 _ _ F I E false _ ?s1 Y.out A9.out).mono ?_); (case s1 => exact cB O HB); rintro e w' ⟨rfl, ⟨nd, rfl⟩⟩; (try exact dN))))
            go_ret2
            exact ⟨_, eW, by first | exact Kd.R_nil _ _ _ _ _ | exact Kd.N_nil _ _ _ _ _ | exact Kd.V_nil _ _ _ _ _ | exact Kd.Q_nil _ _ _ _ _ | exact Kd.S_nil _ _ _ _ _, bO HB.out⟩
          ·rw [if_neg c8] at H; have bi := decide_eq_false c8; clear c8; replace H := Option.bind_eq_some_iff.mp H; obtain ⟨B, aU, H⟩ := H; have ai := aM aU; clear aU
           by_cases Z : (B.length : Int) = (F.length : Int)
           ·rw [if_pos Z] at H; obtain ⟨aZ, a2⟩ := bq Z
            have a3 : (B.length == F.length) = true := by first | simpa using Z | (simp at Z ⊢; omega)
            clear Z; have H' := aM H; clear H; obtain ⟨bk, bl, bm⟩ := sL A; subst bm
            go_wp2_with (first | (go_at_call 64; (with_reducible refine (tabardref11_Cubes.calls k3 _ _ D 0 0 B _ ?s1 (rR A).2.1 ai.out).mono ?_); (case s1 => exact cO (rR A).2.2); rintro e be ⟨ae, rfl, J, hb⟩; replace A := rB A hb; have G := rW J (bP0 HB); replace HB := hS0 HB hb; (try clear hb); (try clear J); obtain ⟨av, aw, af⟩ := sL G; subst af))
            repeat (go_quiet (first | (go_at_call 64; (with_reducible refine (tabardref11_Cubes.calls k3 _ _ D 0 0 B _ ?s1 (rR A).2.1 ai.out).mono ?_); (case s1 => exact cO (rR A).2.2); rintro e be ⟨ae, rfl, J, hb⟩; replace A := rB A hb; have G := rW J (bP0 HB); replace HB := hS0 HB hb; (try clear hb); (try clear J); obtain ⟨av, aw, af⟩ := sL G; subst af)); try go_wp2_with (first | (go_at_call 64; (with_reducible refine (tabardref11_Cubes.calls k3 _ _ D 0 0 B _ ?s1 (rR A).2.1 ai.out).mono ?_); (case s1 => exact cO (rR A).2.2); rintro e be ⟨ae, rfl, J, hb⟩; replace A := rB A hb; have G := rW J (bP0 HB); replace HB := hS0 HB hb; (try clear hb); (try clear J); obtain ⟨av, aw, af⟩ := sL G; subst af)))
            go_loopg [13] k3 (fun kq bu w' => ∃ (z : Int), bu = .int .i64 z ∧ Aside0 (tabardref11_Unpack.l2 kq F D B z = some (r1, r2)) ∧ Aside0 (kq ≤ k3) ∧ RA (Kd.int .i64) 3 w' w (.slice bk D.length bl) D ∧ RA k73 73 w' w (.slice av B.length aw) B ∧ BA w w')
            case atStart => exact ⟨(0), sI, H', ⟨Nat.le_refl _⟩, rQ A, rQ G, bT0 HB⟩
            case round =>
             clear H'
             obtain ⟨z, rfl, HA, HK4, A, ap, HB⟩ := hrel; cases gk with
             | zero => exact absurd HA.out (by simp [tabardref11_Unpack.l2])
             | succ k4 =>
              have H := HA.out; clear HA; simp only [tabardref11_Unpack.l2] at H
              by_cases aj : z < (F.length : Int)
              ·rw [if_pos aj] at H; have a4 := dT aj; clear aj
               by_cases aC : 0 ≤ z
               ·rw [if_pos aC] at H; have bv := dT aC; clear aC
                by_cases aD : z < (B.length : Int)
                ·rw [if_pos aD] at H; have bw := dT aD; clear aD
                 by_cases ak : (!(((rd_T73 B z).f0) == ((rd_T73 F z).f0)) || (!(((rd_T73 B z).f1) == ((rd_T73 F z).f1)) || (!(((rd_T73 B z).f2) == ((rd_T73 F z).f2))))) = true
                 ·rw [if_pos ak] at H; have a5 : (!(((rd_T73 B z).f0) == ((rd_T73 F z).f0)) || (!(((rd_T73 B z).f1) == ((rd_T73 F z).f1)) || (!(((rd_T73 B z).f2) == ((rd_T73 F z).f2))))) = true := ak; clear ak; simp only [Option.some.injEq, Prod.mk.injEq] at H; obtain ⟨rfl, rfl⟩ := H; have Q : 0 ≤ (z : Int) := oT aO; have U : z < (B.length : Int) := oT aO; obtain ⟨a6, ax, aJ, aK, aN⟩ := at_T73 (rR ap).2.2 z Q U; cases ax; replace Q := eq_true Q; replace U := eq_true U; have V : 0 ≤ (z : Int) := oT aO; have W : z < (F.length : Int) := oT aO; obtain ⟨a7, ay, L, M, N⟩ := at_T73 O.out z V W; cases ay; replace L := cX HB L; replace M := cX HB M; replace N := cX HB N; replace V := eq_true V; replace W := eq_true W
                  go_wp2
                  repeat (go_quiet (fail); try go_wp2)
                  go_ret2
                  exact ⟨_, eW, by first | exact Kd.R_nil _ _ _ _ _ | exact Kd.N_nil _ _ _ _ _ | exact Kd.V_nil _ _ _ _ _ | exact Kd.Q_nil _ _ _ _ _ | exact Kd.S_nil _ _ _ _ _, bO HB.out⟩
                 ·rw [if_neg ak] at H
                  have a5 : (!(((rd_T73 B z).f0) == ((rd_T73 F z).f0)) || (!(((rd_T73 B z).f1) == ((rd_T73 F z).f1)) || (!(((rd_T73 B z).f2) == ((rd_T73 F z).f2))))) = false := by simpa using ak
                  clear ak; have H' := aM H; clear H; have Q : 0 ≤ (z : Int) := oT aO; have U : z < (B.length : Int) := oT aO; obtain ⟨a6, ax, aJ, aK, aN⟩ := at_T73 (rR ap).2.2 z Q U; cases ax; replace Q := eq_true Q; replace U := eq_true U; have V : 0 ≤ (z : Int) := oT aO; have W : z < (F.length : Int) := oT aO; obtain ⟨a7, ay, L, M, N⟩ := at_T73 O.out z V W; cases ay; replace L := cX HB L; replace M := cX HB M; replace N := cX HB N; replace V := eq_true V; replace W := eq_true W
                  go_wp2
                  repeat (go_quiet (fail); try go_wp2)
                  go_roundg k4
                  case measure => have := HJ2.out; have := HK2.out; have := HK3.out; have := HK4.out; omega
                  case rel => exact ⟨(wrap64 (z + 1)), sI, H', ⟨by have := HJ2.out; have := HK2.out; have := HK3.out; have := HK4.out; omega⟩, rQ A, rQ ap, bT0 HB⟩
                ·exact nX aD H
               ·exact nX aC H
              ·rw [if_neg aj] at H; have a4 := decide_eq_false aj; clear aj; simp only [Option.some.injEq, Prod.mk.injEq] at H; obtain ⟨rfl, rfl⟩ := H
               go_wp2
               repeat (go_quiet (fail); try go_wp2)
               go_ret2
               exact ⟨_, eW, rO A.out, bO HB.out⟩
           ·rw [if_neg Z] at H; obtain ⟨aZ, a2⟩ := bn Z
            have a3 : (B.length == F.length) = false := by first | simpa using Z | (simp at Z ⊢; omega)
            simp only [Option.some.injEq, Prod.mk.injEq] at H; obtain ⟨rfl, rfl⟩ := H; obtain ⟨bC, bD, bo⟩ := sL A; subst bo
            go_wp2_with (first | (go_at_call 64; (with_reducible refine (tabardref11_Cubes.calls k3 _ _ D 0 0 B _ ?s1 (rR A).2.1 ai.out).mono ?_); (case s1 => exact cO (rR A).2.2); rintro e bf ⟨ae, rfl, J, hb⟩; replace A := rB A hb; have G := rW J (bP0 HB); replace HB := hS0 HB hb; (try clear hb); (try clear J); obtain ⟨aV, aW, ag⟩ := sL G; subst ag))
            repeat (go_quiet (first | (go_at_call 64; (with_reducible refine (tabardref11_Cubes.calls k3 _ _ D 0 0 B _ ?s1 (rR A).2.1 ai.out).mono ?_); (case s1 => exact cO (rR A).2.2); rintro e bf ⟨ae, rfl, J, hb⟩; replace A := rB A hb; have G := rW J (bP0 HB); replace HB := hS0 HB hb; (try clear hb); (try clear J); obtain ⟨aV, aW, ag⟩ := sL G; subst ag)); try go_wp2_with (first | (go_at_call 64; (with_reducible refine (tabardref11_Cubes.calls k3 _ _ D 0 0 B _ ?s1 (rR A).2.1 ai.out).mono ?_); (case s1 => exact cO (rR A).2.2); rintro e bf ⟨ae, rfl, J, hb⟩; replace A := rB A hb; have G := rW J (bP0 HB); replace HB := hS0 HB hb; (try clear hb); (try clear J); obtain ⟨aV, aW, ag⟩ := sL G; subst ag)))
            go_ret2
            exact ⟨_, eW, by first | exact Kd.R_nil _ _ _ _ _ | exact Kd.N_nil _ _ _ _ _ | exact Kd.V_nil _ _ _ _ _ | exact Kd.Q_nil _ _ _ _ _ | exact Kd.S_nil _ _ _ _ _, bO HB.out⟩

end Go.Proofs.Ytninoenmhcbonaa.X
namespace Go.Proofs.Ytninoenmhcbonaa.X
open Go.RowKit Go.Proofs.YtninoenmhcbonaaW.PrintWords Go.Proofs.YtninoenmhcbonaaW.PrintLast Go.Proofs.YtninoenmhcbonaaW.PrintMore
attribute [local go_sem] max2_int min2_int max_two min_two max_three min_three max_four min_four
set_option linter.unusedVariables false
set_option linter.unusedSimpArgs false
set_option maxHeartbeats 8000000
set_option maxRecDepth 100000

/-! ### tabardref11_Right: function 35 -/
def tabardref11_Right.l0 : Nat → Int → List Int → Int → Option (Bool)
 | 0, _, _, _ => none
 | k + 1, x2, x7, x9 => if x9 < (x7.length : Int) then (if 0 ≤ x9 then (if (rd x7 x9) ≥ x2 then (some false) else (tabardref11_Right.l0 k x2 x7 (wrap64 (x9 + 1)))) else (none)) else (some true)
def tabardref11_Right.f (k : Nat) (l0 : List (S73)) (a1 : Int) (a2 : Int) : Option (Bool) := (tabardref11_Unpack.f k l0 a1).bind fun bt494 => (if bt494.2 = 0 then (tabardref11_Right.l0 k a2 bt494.1 0) else (some false))
theorem tabardref11_Right.mono_l : ∀ k, (∀ y0 y1 y2, LeO (tabardref11_Right.l0 k y0 y1 y2) (tabardref11_Right.l0 (k + 1) y0 y1 y2))
 | 0 => fun _ _ _ r h => by simp [tabardref11_Right.l0] at h
 | k + 1 => by
  have ih0 := tabardref11_Right.mono_l k
  ·intro y0 y1 y2
   unfold tabardref11_Right.l0
   repeat' first | (with_reducible first | exact ih0 _ _ _ | exact tabardref11_Unpack.mono _ _ _ | exact lA | apply lI | refine lB ?_ fun _ => ?_) | exact lN _ | apply lI | refine lB ?_ fun _ => ?_
theorem tabardref11_Right.mono : ∀ a0 a1 a2 k, LeO (tabardref11_Right.f k a0 a1 a2) (tabardref11_Right.f (k + 1) a0 a1 a2) := by
 intro a0 a1 a2 k; have ih0 := tabardref11_Right.mono_l k
 unfold tabardref11_Right.f
 repeat' first | (with_reducible first | exact ih0 _ _ _ | exact tabardref11_Unpack.mono _ _ _ | exact lA | apply lI | refine lB ?_ fun _ => ?_) | exact lN _ | apply lI | refine lB ?_ fun _ => ?_
theorem tabardref11_Right.calls (k : Nat) (W : Option Addr) (Y : Nat) (F : List (S73)) (M : Int) (Q : Int) (r : Bool) (w : World) (ab : Kd.C k73 w W F.length F) (ac : F.length ≤ Y) (h : tabardref11_Right.f k F M Q = some r) :
  Calls Try.prog 35 #[.slice W F.length Y, .int .i64 M, .int .i64 Q] w fun e w' => e = .returned (.bool r) ∧ Below w.heap.size w w' := by
 have ad := aM ab; have ae := aM ac; clear ab ac; have HB := aM (Below.refl w.heap.size w); rw [tabardref11_Right.f] at h; have H := h; clear h; replace H := Option.bind_eq_some_iff.mp H; obtain ⟨⟨A, G⟩, af, H⟩ := H; replace H : (if G = 0 then (tabardref11_Right.l0 k Q A 0) else (some false)) = some r := H; have A4 := aM af; clear af
 by_cases U : G = 0
 ·rw [if_pos U] at H; obtain ⟨ag, ah⟩ := bq U; clear U; have H' := aM H; clear H
  go_enter Try.func35, Try.ntmps35
  go_wp2_with (first | ((with_reducible refine gate_callee (f := 36) rfl ?_); refine gL_ (some 13) Try.func36 #[.slice W F.length Y, .int .i64 M] ?_; (with_reducible refine (tabardref11_Unpack.calls k _ _ F M A G _ ?s1 ae.out A4.out).mono ?_); (case s1 => exact cO ad.out); rintro e w6 ⟨V, rfl, I, hb⟩; refine ⟨_, rfl, ?_⟩; have L := rW I (bP0 HB); replace HB := hS0 HB hb; (try clear hb); (try clear I)))
  go_loopg [9] k (fun kq v9 w' => ∃ (z : Int), v9 = .int .i64 z ∧ Aside0 (tabardref11_Right.l0 kq Q A z = some r) ∧ Aside0 (kq ≤ k) ∧ RA (Kd.int .i64) 3 w' w V A ∧ BA w w')
  case atStart => exact ⟨(0), sI, H', ⟨Nat.le_refl _⟩, rQ L, bT0 HB⟩
  case round =>
   clear H'
   obtain ⟨z, rfl, HA, HK1, E, HB⟩ := hrel; cases gk with
   | zero => exact absurd HA.out (by simp [tabardref11_Right.l0])
   | succ k1 =>
    have H := HA.out; clear HA; simp only [tabardref11_Right.l0] at H
    by_cases N : z < (A.length : Int)
    ·rw [if_pos N] at H; have ai := dT N; clear N
     by_cases Z : 0 ≤ z
     ·rw [if_pos Z] at H; have ap := dT Z; clear Z
      by_cases O : (rd A z) ≥ Q
      ·rw [if_pos O] at H; have aj := dT O; clear O; obtain rfl := Option.some.inj H; obtain ⟨aq, ar, ak⟩ := sL E; subst ak; have B : 0 ≤ (z : Int) := oT aO; have D : z < (A.length : Int) := oT aO; obtain ⟨aa, J, P⟩ := Kd.at_int (rR E).2.2 z B D; cases J; replace B := eq_true B; replace D := eq_true D
       go_wp2
       go_ret
       exact ⟨eW, bO HB.out⟩
      ·rw [if_neg O] at H; have aj := decide_eq_false O; clear O; have H' := aM H; clear H; obtain ⟨au, av, al⟩ := sL E; subst al; have B : 0 ≤ (z : Int) := oT aO; have D : z < (A.length : Int) := oT aO; obtain ⟨aa, J, P⟩ := Kd.at_int (rR E).2.2 z B D; cases J; replace B := eq_true B; replace D := eq_true D
       go_wp2
       go_roundg k1
       case measure => have := HK1.out; omega
       case rel => exact ⟨(wrap64 (z + 1)), sI, H', ⟨by have := HK1.out; omega⟩, rQ E, bT0 HB⟩
     ·exact nX Z H
    ·rw [if_neg N] at H; have ai := decide_eq_false N; clear N; obtain rfl := Option.some.inj H; obtain ⟨aw, ax, am⟩ := sL E; subst am
     go_wp2
     go_ret
     exact ⟨eW, bO HB.out⟩
 ·rw [if_neg U] at H; obtain ⟨ag, ah⟩ := bn U; obtain rfl := Option.some.inj H
  go_enter Try.func35, Try.ntmps35
  go_wp2_with (first | ((with_reducible refine gate_callee (f := 36) rfl ?_); refine gL_ (some 13) Try.func36 #[.slice W F.length Y, .int .i64 M] ?_; (with_reducible refine (tabardref11_Unpack.calls k _ _ F M A G _ ?s1 ae.out A4.out).mono ?_); (case s1 => exact cO ad.out); rintro e ay ⟨V, rfl, I, hb⟩; refine ⟨_, rfl, ?_⟩; have L := rW I (bP0 HB); replace HB := hS0 HB hb; (try clear hb); (try clear I)))
  go_ret
  exact ⟨eW, bO HB.out⟩

end Go.Proofs.Ytninoenmhcbonaa.X
