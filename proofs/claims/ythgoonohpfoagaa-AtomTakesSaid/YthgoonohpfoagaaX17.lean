/- What the functions of this seat compute, and that the program's calls come to just that: written by this session's own program out of the translation; no condition. -/
import Derived.Test.YthgoonohpfoagaaX0
namespace Go.Proofs.Ythgoonohpfoagaa.X
open Go.RowKit Go.Proofs.YthgoonohpfoagaaW.PrintWords Go.Proofs.YthgoonohpfoagaaW.PrintLast Go.Proofs.YthgoonohpfoagaaW.PrintMore
attribute [local go_sem] max2_int min2_int max_two min_two max_three min_three max_four min_four
set_option linter.unusedVariables false
set_option linter.unusedSimpArgs false
set_option maxHeartbeats 8000000
set_option maxRecDepth 100000

/-! ### tabardref12_Letters: function 29 -/
def tabardref12_Letters.l0 : Nat → Int → Int → Int → Option (Int)
 | 0, _, _, _ => none
 | k + 1, x0, x3, x4 => if x4 < x0 then (tabardref12_Letters.l0 k x0 (wrap64 (x3 * 2)) (wrap64 (x4 + 1))) else (some x3)
def tabardref12_Letters.f (k : Nat) (a0 : Int) : Option (Int) := tabardref12_Letters.l0 k a0 1 0
theorem tabardref12_Letters.mono_l : ∀ k, (∀ y0 y1 y2, LeO (tabardref12_Letters.l0 k y0 y1 y2) (tabardref12_Letters.l0 (k + 1) y0 y1 y2))
 | 0 => fun _ _ _ r h => by simp [tabardref12_Letters.l0] at h
 | k + 1 => by
  have ih0 := tabardref12_Letters.mono_l k
  ·intro y0 y1 y2
   unfold tabardref12_Letters.l0
   repeat' first | (with_reducible first | exact ih0 _ _ _ | exact lA | apply lI | refine lB ?_ fun _ => ?_) | exact lN _ | apply lI | refine lB ?_ fun _ => ?_
theorem tabardref12_Letters.mono : ∀ a0 k, LeO (tabardref12_Letters.f k a0) (tabardref12_Letters.f (k + 1) a0) := by
 intro a0 k; have ih0 := tabardref12_Letters.mono_l k
 unfold tabardref12_Letters.f
 repeat' first | (with_reducible first | exact ih0 _ _ _ | exact lA | apply lI | refine lB ?_ fun _ => ?_) | exact lN _ | apply lI | refine lB ?_ fun _ => ?_
theorem tabardref12_Letters.calls (k : Nat) (C : Int) (r : Int) (w : World) (h : tabardref12_Letters.f k C = some r) :
  Calls Try.prog 29 #[.int .i64 C] w fun e w' => e = .returned (.int .i64 r) ∧ Drawn0 w w' := by
 rw [tabardref12_Letters.f] at h; have H := h; clear h; have H' := aM H; clear H
 go_enter Try.func29, Try.ntmps29
 go_wp2
 go_loopg [3, 4] k (fun kq E F w' => ∃ (A : Int) (z : Int), E = .int .i64 A ∧ F = .int .i64 z ∧ Aside0 (tabardref12_Letters.l0 kq C A z = some r) ∧ Aside0 (kq ≤ k) ∧ Drawn0 w w')
 case atStart => exact ⟨(1), (0), sI, sI, H', ⟨Nat.le_refl _⟩, by repeat (first | exact Drawn0.refl _ | apply Drawn0.step)⟩
 case round =>
  clear H'; obtain ⟨A, z, rfl, rfl, HA, HK1, ⟨m1, rfl⟩⟩ := hrel; cases gk with
  | zero => exact absurd HA.out (by simp [tabardref12_Letters.l0])
  | succ k1 =>
   have H := HA.out; clear HA; simp only [tabardref12_Letters.l0] at H
   by_cases B : z < C
   ·rw [if_pos B] at H; have D := dT B; clear B; have H' := aM H; clear H
    go_wp2
    go_roundg k1
    case measure => have := HK1.out; omega
    case rel => exact ⟨(wrap64 (A * 2)), (wrap64 (z + 1)), sI, sI, H', ⟨by have := HK1.out; omega⟩, by repeat (first | exact Drawn0.refl _ | apply Drawn0.step)⟩
   ·rw [if_neg B] at H; have D := decide_eq_false B; clear B; obtain rfl := Option.some.inj H
    go_wp2
    go_ret
    exact ⟨by first | rfl | (simp; done) | (simp [*]; done), by repeat (first | exact Drawn0.refl _ | apply Drawn0.step)⟩

end Go.Proofs.Ythgoonohpfoagaa.X
namespace Go.Proofs.Ythgoonohpfoagaa.X
open Go.RowKit Go.Proofs.YthgoonohpfoagaaW.PrintWords Go.Proofs.YthgoonohpfoagaaW.PrintLast Go.Proofs.YthgoonohpfoagaaW.PrintMore
attribute [local go_sem] max2_int min2_int max_two min_two max_three min_three max_four min_four
set_option linter.unusedVariables false
set_option linter.unusedSimpArgs false
set_option maxHeartbeats 8000000
set_option maxRecDepth 100000

/-! ### tabardref04_Read: function 94 -/
mutual
def tabardref04_Read.j2 : Nat → ByteArray → Int → Int → Int → Int → Option (Int × Int × Bool)
 | 0, _, _, _, _, _ => none
 | k + 1, x0, x1, x7, x8, x9 => if (wrap64 ((x0.size : Int) - x1)) < x8 then (some (65533, 1, false)) else (tabardref04_Read.l0 k x0 x1 x7 x8 x9 1)
def tabardref04_Read.l0 : Nat → ByteArray → Int → Int → Int → Int → Int → Option (Int × Int × Bool)
 | 0, _, _, _, _, _, _ => none
 | k + 1, x0, x1, x7, x8, x9, x10 => if x10 < x8 then (if 0 ≤ (wrap64 (x1 + x10)) then (if (wrap64 (x1 + x10)) < (x0.size : Int) then (if (wrap64 (bt x0 (wrap64 (x1 + x10)))) < 128 then (some (65533, 1, false)) else (if (wrap64 (bt x0 (wrap64 (x1 + x10)))) > 191 then (some (65533, 1, false)) else (tabardref04_Read.l0 k x0 x1 (wrap64 ((wrap64 ((wrap64 (x7 * 64)) + (wrap64 (bt x0 (wrap64 (x1 + x10)))))) - 128)) x8 x9 (wrap64 (x10 + 1))))) else (none)) else (none)) else (if x7 < x9 then (some (65533, 1, false)) else (if x7 > 1114111 then (some (65533, 1, false)) else (if x7 ≥ 55296 then (if x7 ≤ 57343 then (some (65533, 1, false)) else (some (x7, x8, true))) else (some (x7, x8, true)))))
def tabardref04_Read.j0 : Nat → ByteArray → Int → Int → Bool → Option (Int × Int × Bool)
 | 0, _, _, _, _ => none
 | k + 1, x0, x1, x7, x20 => if x20 = true then (tabardref04_Read.j2 k x0 x1 (wrap64 (x7 - 192)) 2 128) else (if x7 ≥ 224 then (tabardref04_Read.j1 k x0 x1 x7 (decide (x7 < 240))) else (tabardref04_Read.j1 k x0 x1 x7 false))
def tabardref04_Read.j1 : Nat → ByteArray → Int → Int → Bool → Option (Int × Int × Bool)
 | 0, _, _, _, _ => none
 | k + 1, x0, x1, x7, x29 => if x29 = true then (tabardref04_Read.j2 k x0 x1 (wrap64 (x7 - 224)) 3 2048) else (if x7 ≥ 240 then (if x7 < 245 then (tabardref04_Read.j2 k x0 x1 (wrap64 (x7 - 240)) 4 65536) else (some (65533, 1, false))) else (some (65533, 1, false)))
end
def tabardref04_Read.f (k : Nat) (a0 : ByteArray) (a1 : Int) : Option (Int × Int × Bool) := if 0 ≤ a1 then (if a1 < (a0.size : Int) then (if (wrap64 (bt a0 a1)) < 128 then (some (wrap64 (bt a0 a1), 1, true)) else (if (wrap64 (bt a0 a1)) ≥ 194 then (tabardref04_Read.j0 k a0 a1 (wrap64 (bt a0 a1)) (decide ((wrap64 (bt a0 a1)) < 224))) else (tabardref04_Read.j0 k a0 a1 (wrap64 (bt a0 a1)) false))) else (none)) else (none)
theorem tabardref04_Read.mono_l : ∀ k, (∀ y0 y1 y2 y3 y4, LeO (tabardref04_Read.j2 k y0 y1 y2 y3 y4) (tabardref04_Read.j2 (k + 1) y0 y1 y2 y3 y4)) ∧ (∀ y0 y1 y2 y3 y4 y5, LeO (tabardref04_Read.l0 k y0 y1 y2 y3 y4 y5) (tabardref04_Read.l0 (k + 1) y0 y1 y2 y3 y4 y5)) ∧ (∀ y0 y1 y2 y3, LeO (tabardref04_Read.j0 k y0 y1 y2 y3) (tabardref04_Read.j0 (k + 1) y0 y1 y2 y3)) ∧ (∀ y0 y1 y2 y3, LeO (tabardref04_Read.j1 k y0 y1 y2 y3) (tabardref04_Read.j1 (k + 1) y0 y1 y2 y3))
 | 0 => ⟨fun _ _ _ _ _ r h => by simp [tabardref04_Read.j2] at h, fun _ _ _ _ _ _ r h => by simp [tabardref04_Read.l0] at h, fun _ _ _ _ r h => by simp [tabardref04_Read.j0] at h, fun _ _ _ _ r h => by simp [tabardref04_Read.j1] at h⟩
 | k + 1 => by
  obtain ⟨ih0, ih1, ih2, ih3⟩ := tabardref04_Read.mono_l k; refine ⟨?_, ?_, ?_, ?_⟩
  ·intro y0 y1 y2 y3 y4
   unfold tabardref04_Read.j2
   repeat' first | (with_reducible first | exact ih0 _ _ _ _ _ | exact ih1 _ _ _ _ _ _ | exact ih2 _ _ _ _ | exact ih3 _ _ _ _ | exact lA | apply lI | refine lB ?_ fun _ => ?_) | exact lN _ | apply lI | refine lB ?_ fun _ => ?_
  ·intro y0 y1 y2 y3 y4 y5
   unfold tabardref04_Read.l0
   repeat' first | (with_reducible first | exact ih0 _ _ _ _ _ | exact ih1 _ _ _ _ _ _ | exact ih2 _ _ _ _ | exact ih3 _ _ _ _ | exact lA | apply lI | refine lB ?_ fun _ => ?_) | exact lN _ | apply lI | refine lB ?_ fun _ => ?_
  ·intro y0 y1 y2 y3
   unfold tabardref04_Read.j0
   repeat' first | (with_reducible first | exact ih0 _ _ _ _ _ | exact ih1 _ _ _ _ _ _ | exact ih2 _ _ _ _ | exact ih3 _ _ _ _ | exact lA | apply lI | refine lB ?_ fun _ => ?_) | exact lN _ | apply lI | refine lB ?_ fun _ => ?_
  ·intro y0 y1 y2 y3
   unfold tabardref04_Read.j1
   repeat' first | (with_reducible first | exact ih0 _ _ _ _ _ | exact ih1 _ _ _ _ _ _ | exact ih2 _ _ _ _ | exact ih3 _ _ _ _ | exact lA | apply lI | refine lB ?_ fun _ => ?_) | exact lN _ | apply lI | refine lB ?_ fun _ => ?_
theorem tabardref04_Read.mono : ∀ a0 a1 k, LeO (tabardref04_Read.f k a0 a1) (tabardref04_Read.f (k + 1) a0 a1) := by
 intro a0 a1 k; obtain ⟨ih0, ih1, ih2, ih3⟩ := tabardref04_Read.mono_l k
 unfold tabardref04_Read.f
 repeat' first | (with_reducible first | exact ih0 _ _ _ _ _ | exact ih1 _ _ _ _ _ _ | exact ih2 _ _ _ _ | exact ih3 _ _ _ _ | exact lA | apply lI | refine lB ?_ fun _ => ?_) | exact lN _ | apply lI | refine lB ?_ fun _ => ?_
theorem tabardref04_Read.calls (k : Nat) (z : ByteArray) (B : Int) (r1 : Int) (r2 : Int) (r3 : Bool) (w : World) (h : tabardref04_Read.f k z B = some (r1, r2, r3)) :
  Calls Try.prog 94 #[.string z, .int .i64 B] w fun e w' => e = .returned (.tuple #[.int .i64 r1, .int .i64 r2, .bool r3]) ∧ Drawn0 w w' := by
 rw [tabardref04_Read.f] at h; have H := h; clear h
 by_cases c3 : 0 ≤ B
 ·rw [if_pos c3] at H; have aS := dT c3; clear c3
  by_cases c4 : B < (z.size : Int)
  ·rw [if_pos c4] at H; have aT := dT c4; clear c4; have ap := aM H; clear H; have p5 : 0 ≤ (B : Int) := oT aO; have q5 : B < (z.size : Int) := oT aO; have aX := bt_at z B; replace p5 := eq_true p5; replace q5 := eq_true q5
   go_enter Try.func94, Try.ntmps94
   go_upto_block 0 with (fail)
   go_cut [7, 8, 9] (fun v7 v8 v9 wc => ∃ (kq : Nat) (ae : Int) (I : Int) (N : Int), v7 = .int .i64 ae ∧ v8 = .int .i64 I ∧ v9 = .int .i64 N ∧ Aside0 (tabardref04_Read.j2 kq z B ae I N = some (r1, r2, r3)) ∧ Aside0 (kq ≤ k) ∧ Drawn0 w wc)
   case first =>
    have H := ap.out; clear ap
    by_cases c7 : (wrap64 (bt z B)) < 128
    ·rw [if_pos c7] at H; have O := dT c7; clear c7
     (first | rw [O] | (simp only [i64_w, i32_w]; rw [O]) | skip)
     simp only [Option.some.injEq, Prod.mk.injEq] at H; obtain ⟨rfl, rfl, rfl⟩ := H
     go_wp2
     go_ret3
     exact ⟨by first | rfl | (simp; done) | (simp [*]; done), by repeat (first | exact Drawn0.refl _ | apply Drawn0.step)⟩
    ·rw [if_neg c7] at H; have O := decide_eq_false c7; clear c7
     (first | rw [O] | (simp only [i64_w, i32_w]; rw [O]) | skip)
     have aq := aM H; clear H
     go_upto_region 6 with (fail)
     go_cut [20] (fun aK wc => ∃ (kq : Nat) (M : Bool), aK = .bool M ∧ Aside0 (tabardref04_Read.j0 kq z B (wrap64 (bt z B)) M = some (r1, r2, r3)) ∧ Aside0 (kq ≤ k) ∧ Drawn0 w wc)
     case first =>
      have H := aq.out; clear aq
      by_cases c9 : (wrap64 (bt z B)) ≥ 194
      ·rw [if_pos c9] at H; have P := dT c9; clear c9
       (first | rw [P] | (simp only [i64_w, i32_w]; rw [P]) | skip)
       have H' := aM H; clear H
       go_wp2
       go_meet
       case rel => exact ⟨_, (decide ((wrap64 (bt z B)) < 224)), sI, H', ⟨by first | omega | exact Nat.le_refl _⟩, by repeat (first | exact Drawn0.refl _ | apply Drawn0.step)⟩
      ·rw [if_neg c9] at H; have P := decide_eq_false c9; clear c9
       (first | rw [P] | (simp only [i64_w, i32_w]; rw [P]) | skip)
       have H' := aM H; clear H
       go_wp2
       go_meet
       case rel => exact ⟨_, (false), sI, H', ⟨by first | omega | exact Nat.le_refl _⟩, by repeat (first | exact Drawn0.refl _ | apply Drawn0.step)⟩
     case rest =>
      clear aq
      obtain ⟨kq, M, rfl, HA, HJ7, ⟨mc7, rfl⟩⟩ := hcut; cases kq with
      | zero => exact absurd HA.out (by simp [tabardref04_Read.j0])
      | succ aL =>
       have H := HA.out; clear HA; simp only [tabardref04_Read.j0] at H
       by_cases ag : M = true
       ·subst ag
        rw [if_pos rfl] at H; have H' := aM H; clear H
        go_wp2
        go_meet
        case rel => exact ⟨_, (wrap64 ((wrap64 (bt z B)) - 192)), (2), (128), sI, sI, sI, H', ⟨by have := HJ7.out; first | omega | exact Nat.le_refl _⟩, by repeat (first | exact Drawn0.refl _ | apply Drawn0.step)⟩
       ·replace ag := Bool.eq_false_iff.mpr ag; subst ag
        rw [if_neg nF] at H; have af := aM H; clear H
        go_upto_region 8 with (fail)
        go_cut [29] (fun aN wc => ∃ (kq : Nat) (F : Bool), aN = .bool F ∧ Aside0 (tabardref04_Read.j1 kq z B (wrap64 (bt z B)) F = some (r1, r2, r3)) ∧ Aside0 (kq ≤ aL) ∧ Drawn0 w wc)
        case first =>
         have H := af.out; clear af
         by_cases Q : (wrap64 (bt z B)) ≥ 224
         ·rw [if_pos Q] at H; have G := dT Q; clear Q
          (first | rw [G] | (simp only [i64_w, i32_w]; rw [G]) | skip)
          have H' := aM H; clear H
          go_wp2
          go_meet
          case rel => exact ⟨_, (decide ((wrap64 (bt z B)) < 240)), sI, H', ⟨by have := HJ7.out; first | omega | exact Nat.le_refl _⟩, by repeat (first | exact Drawn0.refl _ | apply Drawn0.step)⟩
         ·rw [if_neg Q] at H; have G := decide_eq_false Q; clear Q
          (first | rw [G] | (simp only [i64_w, i32_w]; rw [G]) | skip)
          have H' := aM H; clear H
          go_wp2
          go_meet
          case rel => exact ⟨_, (false), sI, H', ⟨by have := HJ7.out; first | omega | exact Nat.le_refl _⟩, by repeat (first | exact Drawn0.refl _ | apply Drawn0.step)⟩
        case rest =>
         clear af
         obtain ⟨kq, F, rfl, HA, HJ10, ⟨mc10, rfl⟩⟩ := hcut; cases kq with
         | zero => exact absurd HA.out (by simp [tabardref04_Read.j1])
         | succ aW =>
          have H := HA.out; clear HA; simp only [tabardref04_Read.j1] at H
          by_cases ah : F = true
          ·subst ah
           rw [if_pos rfl] at H; have H' := aM H; clear H
           go_wp2
           go_meet
           case rel => exact ⟨_, (wrap64 ((wrap64 (bt z B)) - 224)), (3), (2048), sI, sI, sI, H', ⟨by have := HJ7.out; have := HJ10.out; first | omega | exact Nat.le_refl _⟩, by repeat (first | exact Drawn0.refl _ | apply Drawn0.step)⟩
          ·replace ah := Bool.eq_false_iff.mpr ah; subst ah
           rw [if_neg nF] at H
           by_cases R : (wrap64 (bt z B)) ≥ 240
           ·rw [if_pos R] at H; have aw := dT R; clear R
            by_cases U : (wrap64 (bt z B)) < 245
            ·rw [if_pos U] at H; have ax := dT U; clear U; have H' := aM H; clear H
             go_wp2
             go_meet
             case rel => exact ⟨_, (wrap64 ((wrap64 (bt z B)) - 240)), (4), (65536), sI, sI, sI, H', ⟨by have := HJ7.out; have := HJ10.out; first | omega | exact Nat.le_refl _⟩, by repeat (first | exact Drawn0.refl _ | apply Drawn0.step)⟩
            ·rw [if_neg U] at H; have ax := decide_eq_false U; clear U; simp only [Option.some.injEq, Prod.mk.injEq] at H; obtain ⟨rfl, rfl, rfl⟩ := H
             go_wp2
             go_ret3
             exact ⟨by first | rfl | (simp; done) | (simp [*]; done), by repeat (first | exact Drawn0.refl _ | apply Drawn0.step)⟩
           ·rw [if_neg R] at H; have aw := decide_eq_false R; clear R; simp only [Option.some.injEq, Prod.mk.injEq] at H; obtain ⟨rfl, rfl, rfl⟩ := H
            go_wp2
            go_ret3
            exact ⟨by first | rfl | (simp; done) | (simp [*]; done), by repeat (first | exact Drawn0.refl _ | apply Drawn0.step)⟩
   case rest =>
    clear ap
    obtain ⟨kq, ae, I, N, rfl, rfl, rfl, HA, HJ5, ⟨mc5, rfl⟩⟩ := hcut; cases kq with
    | zero => exact absurd HA.out (by simp [tabardref04_Read.j2])
    | succ aG =>
     have H := HA.out; clear HA; simp only [tabardref04_Read.j2] at H
     by_cases V : (wrap64 ((z.size : Int) - B)) < I
     ·rw [if_pos V] at H; have ay := dT V; clear V; simp only [Option.some.injEq, Prod.mk.injEq] at H; obtain ⟨rfl, rfl, rfl⟩ := H
      go_wp2
      go_ret3
      exact ⟨by first | rfl | (simp; done) | (simp [*]; done), by repeat (first | exact Drawn0.refl _ | apply Drawn0.step)⟩
     ·rw [if_neg V] at H; have ay := decide_eq_false V; clear V; have H' := aM H; clear H
      go_wp2
      go_loopg [7, 10] aG (fun kq v7 aP w' => ∃ (D : Int) (C : Int), v7 = .int .i64 D ∧ aP = .int .i64 C ∧ Aside0 (tabardref04_Read.l0 kq z B D I N C = some (r1, r2, r3)) ∧ Aside0 (kq ≤ aG) ∧ Drawn0 w w')
      case atStart => exact ⟨(ae), (1), sI, sI, H', ⟨Nat.le_refl _⟩, by repeat (first | exact Drawn0.refl _ | apply Drawn0.step)⟩
      case round =>
       clear H'
       obtain ⟨D, C, rfl, rfl, HA, HK2, ⟨m2, rfl⟩⟩ := hrel; cases gk with
       | zero => exact absurd HA.out (by simp [tabardref04_Read.l0])
       | succ k2 =>
        have H := HA.out; clear HA; simp only [tabardref04_Read.l0] at H
        by_cases W : C < I
        ·rw [if_pos W] at H; have az := dT W; clear W; obtain ⟨A, E⟩ : ∃ j_ : Int, (wrap64 (B + C)) = j_ := ⟨_, rfl⟩
         first | rw [E] at H | simp only [E] at H
         have hji18w : (IntKind.i64.wrap (B + C)) = A := (i64_w _).trans E
         by_cases ai : 0 ≤ (A)
         ·rw [if_pos ai] at H; have aQ := dT ai; clear ai
          by_cases aj : (A) < (z.size : Int)
          ·rw [if_pos aj] at H; have aR := dT aj; clear aj
           by_cases Y : (wrap64 (bt z (A))) < 128
           ·rw [if_pos Y] at H; have aA := dT Y; clear Y; simp only [Option.some.injEq, Prod.mk.injEq] at H; obtain ⟨rfl, rfl, rfl⟩ := H; have J : 0 ≤ ((A) : Int) := oT aO; have L : (A) < (z.size : Int) := oT aO; have ar := bt_at z (A); replace J := eq_true J; replace L := eq_true L
            go_wp2
            go_ret3
            exact ⟨by first | rfl | (simp; done) | (simp only [← E] <;> (first | rfl | simp)) | (simp [*]; done), by repeat (first | exact Drawn0.refl _ | apply Drawn0.step)⟩
           ·rw [if_neg Y] at H; have aA := decide_eq_false Y; clear Y
            by_cases Z : (wrap64 (bt z (A))) > 191
            ·rw [if_pos Z] at H; have aB := dT Z; clear Z; simp only [Option.some.injEq, Prod.mk.injEq] at H; obtain ⟨rfl, rfl, rfl⟩ := H; have J : 0 ≤ ((A) : Int) := oT aO; have L : (A) < (z.size : Int) := oT aO; have ar := bt_at z (A); replace J := eq_true J; replace L := eq_true L
             go_wp2
             go_ret3
             exact ⟨by first | rfl | (simp; done) | (simp only [← E] <;> (first | rfl | simp)) | (simp [*]; done), by repeat (first | exact Drawn0.refl _ | apply Drawn0.step)⟩
            ·rw [if_neg Z] at H; have aB := decide_eq_false Z; clear Z; have H' := aM H; clear H; have J : 0 ≤ ((A) : Int) := oT aO; have L : (A) < (z.size : Int) := oT aO; have ar := bt_at z (A); replace J := eq_true J; replace L := eq_true L
             go_wp2
             go_roundg k2
             case measure => have := HJ5.out; have := HK2.out; omega
             case rel => exact ⟨(wrap64 ((wrap64 ((wrap64 (D * 64)) + (wrap64 (bt z (A))))) - 128)), (wrap64 (C + 1)), (by first | rfl | (simp; done) | (simp only [← E] <;> (first | rfl | simp)) | (simp [*]; done)), sI, H', ⟨by have := HJ5.out; have := HK2.out; omega⟩, by repeat (first | exact Drawn0.refl _ | apply Drawn0.step)⟩
          ·exact nX aj H
         ·exact nX ai H
        ·rw [if_neg W] at H; have az := decide_eq_false W; clear W
         by_cases aa : D < N
         ·rw [if_pos aa] at H; have aC := dT aa; clear aa; simp only [Option.some.injEq, Prod.mk.injEq] at H; obtain ⟨rfl, rfl, rfl⟩ := H
          go_wp2
          go_ret3
          exact ⟨by first | rfl | (simp; done) | (simp [*]; done), by repeat (first | exact Drawn0.refl _ | apply Drawn0.step)⟩
         ·rw [if_neg aa] at H; have aC := decide_eq_false aa; clear aa
          by_cases ab : D > 1114111
          ·rw [if_pos ab] at H; have aD := dT ab; clear ab; simp only [Option.some.injEq, Prod.mk.injEq] at H; obtain ⟨rfl, rfl, rfl⟩ := H
           go_wp2
           go_ret3
           exact ⟨by first | rfl | (simp; done) | (simp [*]; done), by repeat (first | exact Drawn0.refl _ | apply Drawn0.step)⟩
          ·rw [if_neg ab] at H; have aD := decide_eq_false ab; clear ab
           by_cases ac : D ≥ 55296
           ·rw [if_pos ac] at H; have aE := dT ac; clear ac
            by_cases ad : D ≤ 57343
            ·rw [if_pos ad] at H; have aF := dT ad; clear ad; simp only [Option.some.injEq, Prod.mk.injEq] at H; obtain ⟨rfl, rfl, rfl⟩ := H
             go_wp2
             go_ret3
             exact ⟨by first | rfl | (simp; done) | (simp [*]; done), by repeat (first | exact Drawn0.refl _ | apply Drawn0.step)⟩
            ·rw [if_neg ad] at H; have aF := decide_eq_false ad; clear ad; simp only [Option.some.injEq, Prod.mk.injEq] at H; obtain ⟨rfl, rfl, rfl⟩ := H
             go_wp2
             go_ret3
             exact ⟨by first | rfl | (simp; done) | (simp [*]; done), by repeat (first | exact Drawn0.refl _ | apply Drawn0.step)⟩
           ·rw [if_neg ac] at H; have aE := decide_eq_false ac; clear ac; simp only [Option.some.injEq, Prod.mk.injEq] at H; obtain ⟨rfl, rfl, rfl⟩ := H
            go_wp2
            go_ret3
            exact ⟨by first | rfl | (simp; done) | (simp [*]; done), by repeat (first | exact Drawn0.refl _ | apply Drawn0.step)⟩
  ·exact nX c4 H
 ·exact nX c3 H

end Go.Proofs.Ythgoonohpfoagaa.X
namespace Go.Proofs.Ythgoonohpfoagaa.X
open Go.RowKit Go.Proofs.YthgoonohpfoagaaW.PrintWords Go.Proofs.YthgoonohpfoagaaW.PrintLast Go.Proofs.YthgoonohpfoagaaW.PrintMore
attribute [local go_sem] max2_int min2_int max_two min_two max_three min_three max_four min_four
set_option linter.unusedVariables false
set_option linter.unusedSimpArgs false
set_option maxHeartbeats 8000000
set_option maxRecDepth 100000

/-! ### tabardref04_within: function 103 -/
def tabardref04_within.l0 : Nat → Int → List Int → Int → Option (Bool)
 | 0, _, _, _ => none
 | k + 1, x0, x1, x5 => if (wrap64 (x5 + 1)) < (x1.length : Int) then (if 0 ≤ x5 then (if x5 < (x1.length : Int) then (if x0 ≥ (rd x1 x5) then (if 0 ≤ (wrap64 (x5 + 1)) then (if x0 ≤ (rd x1 (wrap64 (x5 + 1))) then (some true) else (tabardref04_within.l0 k x0 x1 (wrap64 (x5 + 2)))) else (none)) else (tabardref04_within.l0 k x0 x1 (wrap64 (x5 + 2)))) else (none)) else (none)) else (some false)
def tabardref04_within.f (k : Nat) (a0 : Int) (l1 : List Int) : Option (Bool) := tabardref04_within.l0 k a0 l1 0
theorem tabardref04_within.mono_l : ∀ k, (∀ y0 y1 y2, LeO (tabardref04_within.l0 k y0 y1 y2) (tabardref04_within.l0 (k + 1) y0 y1 y2))
 | 0 => fun _ _ _ r h => by simp [tabardref04_within.l0] at h
 | k + 1 => by
  have ih0 := tabardref04_within.mono_l k
  ·intro y0 y1 y2
   unfold tabardref04_within.l0
   repeat' first | (with_reducible first | exact ih0 _ _ _ | exact lA | apply lI | refine lB ?_ fun _ => ?_) | exact lN _ | apply lI | refine lB ?_ fun _ => ?_
theorem tabardref04_within.mono : ∀ a0 a1 k, LeO (tabardref04_within.f k a0 a1) (tabardref04_within.f (k + 1) a0 a1) := by
 intro a0 a1 k; have ih0 := tabardref04_within.mono_l k
 unfold tabardref04_within.f
 repeat' first | (with_reducible first | exact ih0 _ _ _ | exact lA | apply lI | refine lB ?_ fun _ => ?_) | exact lN _ | apply lI | refine lB ?_ fun _ => ?_
theorem tabardref04_within.calls (k : Nat) (Z : Int) (A1 : Option Addr) (c1 : Nat) (D : List Int) (r : Bool) (w : World) (ae : Kd.C (Kd.int .i64) w A1 D.length D) (af : D.length ≤ c1) (h : tabardref04_within.f k Z D = some r) :
  Calls Try.prog 103 #[.int .i64 Z, .slice A1 D.length c1] w fun e w' => e = .returned (.bool r) ∧ Drawn0 w w' := by
 have Q := aM ae; have ao := aM af; clear ae af; rw [tabardref04_within.f] at h; have H := h; clear h; have H' := aM H; clear H
 go_enter Try.func103, Try.ntmps103
 go_wp2
 go_loopg [5] k (fun kq v5 w' => ∃ (z : Int), v5 = .int .i64 z ∧ Aside0 (tabardref04_within.l0 kq Z D z = some r) ∧ Aside0 (kq ≤ k) ∧ Drawn0 w w')
 case atStart => exact ⟨(0), sI, H', ⟨Nat.le_refl _⟩, by repeat (first | exact Drawn0.refl _ | apply Drawn0.step)⟩
 case round =>
  clear H'
  obtain ⟨z, rfl, HA, HK1, ⟨m1, rfl⟩⟩ := hrel; cases gk with
  | zero => exact absurd HA.out (by simp [tabardref04_within.l0])
  | succ k1 =>
   have H := HA.out; clear HA; simp only [tabardref04_within.l0] at H
   by_cases U : (wrap64 (z + 1)) < (D.length : Int)
   ·rw [if_pos U] at H; have aa := dT U; clear U
    by_cases c4 : 0 ≤ z
    ·rw [if_pos c4] at H; have al := dT c4; clear c4
     by_cases c5 : z < (D.length : Int)
     ·rw [if_pos c5] at H; have am := dT c5; clear c5
      by_cases V : Z ≥ (rd D z)
      ·rw [if_pos V] at H; have ag := dT V; clear V; obtain ⟨G, J⟩ : ∃ j_ : Int, (wrap64 (z + 1)) = j_ := ⟨_, rfl⟩
       first | rw [J] at H | simp only [J] at H
       (try rw [J] at aa)
       have hji7w : (IntKind.i64.wrap (z + 1)) = G := (i64_w _).trans J
       by_cases c8 : 0 ≤ (G)
       ·rw [if_pos c8] at H; have an := dT c8; clear c8
        by_cases W : Z ≤ (rd D (G))
        ·rw [if_pos W] at H; have ah := dT W; clear W; obtain rfl := Option.some.inj H; have A : 0 ≤ (z : Int) := oT aO; have B : z < (D.length : Int) := oT aO; obtain ⟨I, L, O⟩ := Kd.at_int Q.out z A B; cases L; replace A := eq_true A; replace B := eq_true B; have E : 0 ≤ ((G) : Int) := oT aO; have F : (G) < (D.length : Int) := oT aO; obtain ⟨P, R, Y⟩ := Kd.at_int Q.out (G) E F; have he_ : I = P := (by injection R); subst he_; replace E := eq_true E; replace F := eq_true F
         go_wp2
         go_ret
         exact ⟨by first | rfl | (simp; done) | (simp only [← J] <;> (first | rfl | simp)) | (simp [*]; done), by repeat (first | exact Drawn0.refl _ | apply Drawn0.step)⟩
        ·rw [if_neg W] at H; have ah := decide_eq_false W; clear W; have H' := aM H; clear H; have A : 0 ≤ (z : Int) := oT aO; have B : z < (D.length : Int) := oT aO; obtain ⟨I, L, O⟩ := Kd.at_int Q.out z A B; cases L; replace A := eq_true A; replace B := eq_true B; have E : 0 ≤ ((G) : Int) := oT aO; have F : (G) < (D.length : Int) := oT aO; obtain ⟨P, R, Y⟩ := Kd.at_int Q.out (G) E F; have he_ : I = P := (by injection R); subst he_; replace E := eq_true E; replace F := eq_true F
         go_wp2
         go_roundg k1
         case measure => have := HK1.out; omega
         case rel => exact ⟨(wrap64 (z + 2)), sI, H', ⟨by have := HK1.out; omega⟩, by repeat (first | exact Drawn0.refl _ | apply Drawn0.step)⟩
       ·exact nX c8 H
      ·rw [if_neg V] at H; have ag := decide_eq_false V; clear V; have H' := aM H; clear H; have A : 0 ≤ (z : Int) := oT aO; have B : z < (D.length : Int) := oT aO; obtain ⟨I, L, O⟩ := Kd.at_int Q.out z A B; cases L; replace A := eq_true A; replace B := eq_true B
       go_wp2
       go_roundg k1
       case measure => have := HK1.out; omega
       case rel => exact ⟨(wrap64 (z + 2)), sI, H', ⟨by have := HK1.out; omega⟩, by repeat (first | exact Drawn0.refl _ | apply Drawn0.step)⟩
     ·exact nX c5 H
    ·exact nX c4 H
   ·rw [if_neg U] at H; have aa := decide_eq_false U; clear U; obtain rfl := Option.some.inj H
    go_wp2
    go_ret
    exact ⟨by first | rfl | (simp; done) | (simp [*]; done), by repeat (first | exact Drawn0.refl _ | apply Drawn0.step)⟩

/-! ### tabardref04_Start: function 95 -/
def tabardref04_Start.f (k : Nat) (a0 : Int) : Option (Bool) := (tabardref04_within.f k a0 (([65, 90, 97, 122, 95, 95, 913, 929, 931, 937, 945, 969] : List Int))).bind fun t228 => (some t228)
theorem tabardref04_Start.mono : ∀ a0 k, LeO (tabardref04_Start.f k a0) (tabardref04_Start.f (k + 1) a0) := by
 intro a0 k
 unfold tabardref04_Start.f
 repeat' first | (with_reducible first | exact tabardref04_within.mono _ _ _ | exact lA | apply lI | refine lB ?_ fun _ => ?_) | exact lN _ | apply lI | refine lB ?_ fun _ => ?_
theorem tabardref04_Start.calls (k : Nat) (E : Int) (r : Bool) (w : World) (h : tabardref04_Start.f k E = some r) :
  Calls Try.prog 95 #[.int .i64 E] w fun e w' => e = .returned (.bool r) ∧ Below w.heap.size w w' := by
 have HB := aM (Below.refl w.heap.size w); rw [tabardref04_Start.f] at h; have H := h; clear h; obtain ⟨D, z⟩ : ∃ y_ : List Int, y_ = (([65, 90, 97, 122, 95, 95, 913, 929, 931, 937, 945, 969] : List Int)) := ⟨_, rfl⟩
 first | replace H := rI z H | rw [← z] at H
 have F := aM z; clear z; replace H := Option.bind_eq_some_iff.mp H; obtain ⟨I, G, H⟩ := H; have P := aM G; clear G; obtain rfl := Option.some.inj H
 go_enter Try.func95, Try.ntmps95
 go_wp2_with (first | ((with_reducible refine gate_dst (N := 4) rfl ?_); refine Kd.R_lit (Kd.int .i64) _ 3 ?hg (N := 4) ?hd (xs := ([65, 90, 97, 122, 95, 95, 913, 929, 931, 937, 945, 969] : List Int)) (inner := [.int .i64 65, .int .i64 90, .int .i64 97, .int .i64 122, .int .i64 95, .int .i64 95, .int .i64 913, .int .i64 929, .int .i64 931, .int .i64 937, .int .i64 945, .int .i64 969]) (ok := fun _ => True) (okp := fun _ => True) ?hr ?hp (fun _ hk => hk) trivial (Below.refl _ _) (Nat.le_refl _) (by simp) ?_; (case hd => rfl); (case hg => rfl); (case hr => first | (go_simp; done) | (go_simp; rfl)); (case hp => exact (Reps.one (show Kd.M (Kd.int .i64) _ _ _ 65 [.int .i64 65] from rfl) (Reps.one (show Kd.M (Kd.int .i64) _ _ _ 90 [.int .i64 90] from rfl) (Reps.one (show Kd.M (Kd.int .i64) _ _ _ 97 [.int .i64 97] from rfl) (Reps.one (show Kd.M (Kd.int .i64) _ _ _ 122 [.int .i64 122] from rfl) (Reps.one (show Kd.M (Kd.int .i64) _ _ _ 95 [.int .i64 95] from rfl) (Reps.one (show Kd.M (Kd.int .i64) _ _ _ 95 [.int .i64 95] from rfl) (Reps.one (show Kd.M (Kd.int .i64) _ _ _ 913 [.int .i64 913] from rfl) (Reps.one (show Kd.M (Kd.int .i64) _ _ _ 929 [.int .i64 929] from rfl) (Reps.one (show Kd.M (Kd.int .i64) _ _ _ 931 [.int .i64 931] from rfl) (Reps.one (show Kd.M (Kd.int .i64) _ _ _ 937 [.int .i64 937] from rfl) (Reps.one (show Kd.M (Kd.int .i64) _ _ _ 945 [.int .i64 945] from rfl) (Reps.one (show Kd.M (Kd.int .i64) _ _ _ 969 [.int .i64 969] from rfl) (Reps.none _ _)))))))))))))); intro Q R B hb hg_ hnew_; clear hg_ hnew_; replace B := nW F B; have A := rW B (bP0 HB); replace HB := hS0 HB hb; clear hb B; obtain ⟨J, L, O⟩ := sL A; subst O) | ((with_reducible refine gate_callee (f := 103) rfl ?_); refine gL_ (some 5) Try.func103 #[.int .i64 E, .slice J D.length L] ?_; (with_reducible refine (tabardref04_within.calls k E _ _ D I _ ?s1 (rR A).2.1 P.out).mono ?_); (case s1 => exact cO (rR A).2.2); rintro e w' ⟨rfl, ⟨nd, rfl⟩⟩; refine ⟨_, rfl, ?_⟩))
 go_ret
 exact ⟨eW, bO HB.out⟩

/-! ### tabardref04_Rest: function 96 -/
def tabardref04_Rest.f (k : Nat) (a0 : Int) : Option (Bool) := (tabardref04_Start.f k a0).bind fun t229 => (if t229 = true then (some true) else ((tabardref04_within.f k a0 (([48, 57, 8242, 8242, 8320, 8329] : List Int))).bind fun t233 => (some t233)))
theorem tabardref04_Rest.mono : ∀ a0 k, LeO (tabardref04_Rest.f k a0) (tabardref04_Rest.f (k + 1) a0) := by
 intro a0 k
 unfold tabardref04_Rest.f
 repeat' first | (with_reducible first | exact tabardref04_Start.mono _ _ | exact tabardref04_within.mono _ _ _ | exact lA | apply lI | refine lB ?_ fun _ => ?_) | exact lN _ | apply lI | refine lB ?_ fun _ => ?_
theorem tabardref04_Rest.calls (k : Nat) (B : Int) (r : Bool) (w : World) (h : tabardref04_Rest.f k B = some r) :
  Calls Try.prog 96 #[.int .i64 B] w fun e w' => e = .returned (.bool r) ∧ Below w.heap.size w w' := by
 have HB := aM (Below.refl w.heap.size w); rw [tabardref04_Rest.f] at h; have H := h; clear h; replace H := Option.bind_eq_some_iff.mp H; obtain ⟨J, G, H⟩ := H; have P := aM G; clear G
 by_cases E : J = true
 ·subst E
  rw [if_pos rfl] at H; obtain rfl := Option.some.inj H
  go_enter Try.func96, Try.ntmps96
  go_wp2_with (first | ((with_reducible refine gate_callee (f := 95) rfl ?_); refine gL_ (some 4) Try.func95 #[.int .i64 B] ?_; (with_reducible refine (tabardref04_Start.calls k B true _ P.out).mono ?_); rintro e Y ⟨rfl, hb⟩; refine ⟨_, rfl, ?_⟩; replace HB := hS0 HB hb; (try clear hb)))
  go_ret
  exact ⟨eW, bO HB.out⟩
 ·replace E := Bool.eq_false_iff.mpr E; subst E
  rw [if_neg nF] at H; obtain ⟨L, z⟩ : ∃ y_ : List Int, y_ = (([48, 57, 8242, 8242, 8320, 8329] : List Int)) := ⟨_, rfl⟩
  first | replace H := rI z H | rw [← z] at H
  have F := aM z; clear z; replace H := Option.bind_eq_some_iff.mp H; obtain ⟨O, I, H⟩ := H; have R := aM I; clear I; obtain rfl := Option.some.inj H
  go_enter Try.func96, Try.ntmps96
  go_wp2_with (first | ((with_reducible refine gate_callee (f := 95) rfl ?_); refine gL_ (some 4) Try.func95 #[.int .i64 B] ?_; (with_reducible refine (tabardref04_Start.calls k B false _ P.out).mono ?_); rintro e Z ⟨rfl, hb⟩; refine ⟨_, rfl, ?_⟩; replace HB := hS0 HB hb; (try clear hb); (try clear hk)) | ((with_reducible refine gate_dst (N := 7) rfl ?_); (try (refine gate_guard (by rfl) ?_; dsimp only)); refine Kd.R_lit (Kd.int .i64) _ 3 ?hg (N := 7) ?hd (xs := ([48, 57, 8242, 8242, 8320, 8329] : List Int)) (inner := [.int .i64 48, .int .i64 57, .int .i64 8242, .int .i64 8242, .int .i64 8320, .int .i64 8329]) (ok := fun _ => True) (okp := fun _ => True) ?hr ?hp (fun _ hk => hk) trivial (Below.refl _ _) (Nat.le_refl _) (by simp) ?_; (case hd => rfl); (case hg => rfl); (case hr => first | (go_simp; done) | (go_simp; rfl)); (case hp => exact (Reps.one (show Kd.M (Kd.int .i64) _ _ _ 48 [.int .i64 48] from rfl) (Reps.one (show Kd.M (Kd.int .i64) _ _ _ 57 [.int .i64 57] from rfl) (Reps.one (show Kd.M (Kd.int .i64) _ _ _ 8242 [.int .i64 8242] from rfl) (Reps.one (show Kd.M (Kd.int .i64) _ _ _ 8242 [.int .i64 8242] from rfl) (Reps.one (show Kd.M (Kd.int .i64) _ _ _ 8320 [.int .i64 8320] from rfl) (Reps.one (show Kd.M (Kd.int .i64) _ _ _ 8329 [.int .i64 8329] from rfl) (Reps.none _ _)))))))); intro U w7 D hb hg_ hnew_; clear hg_ hnew_; replace D := nW F D; have A := rW D (bP0 HB); replace HB := hS0 HB hb; clear hb D; obtain ⟨V, W, Q⟩ := sL A; subst Q) | (go_at_call 103; (with_reducible refine (tabardref04_within.calls k B _ _ L O _ ?s1 (rR A).2.1 R.out).mono ?_); (case s1 => exact cO (rR A).2.2); rintro e w' ⟨rfl, ⟨nd, rfl⟩⟩))
  go_ret
  exact ⟨eW, bO HB.out⟩

end Go.Proofs.Ythgoonohpfoagaa.X
namespace Go.Proofs.Ythgoonohpfoagaa.X
open Go.RowKit Go.Proofs.YthgoonohpfoagaaW.PrintWords Go.Proofs.YthgoonohpfoagaaW.PrintLast Go.Proofs.YthgoonohpfoagaaW.PrintMore
attribute [local go_sem] max2_int min2_int max_two min_two max_three min_three max_four min_four
set_option linter.unusedVariables false
set_option linter.unusedSimpArgs false
set_option maxHeartbeats 8000000
set_option maxRecDepth 100000

/-! ### tabardref04_Reserved: function 97 -/
def tabardref04_Reserved.l0 : Nat → ByteArray → List ByteArray → Int → Option (Bool)
 | 0, _, _, _ => none
 | k + 1, x0, x3, x4 => if x4 < (x3.length : Int) then (if 0 ≤ x4 then (if (rdOf ByteArray.empty x3 x4).toList = x0.toList then (some true) else (tabardref04_Reserved.l0 k x0 x3 (wrap64 (x4 + 1)))) else (none)) else (some false)
def tabardref04_Reserved.f (k : Nat) (a0 : ByteArray) : Option (Bool) := tabardref04_Reserved.l0 k a0 (([(⟨#[97, 110, 100]⟩ : ByteArray), (⟨#[111, 114]⟩ : ByteArray), (⟨#[110, 111, 116]⟩ : ByteArray), (⟨#[101, 120]⟩ : ByteArray), (⟨#[97, 108, 108]⟩ : ByteArray), (⟨#[109, 111, 100]⟩ : ByteArray), (⟨#[116, 114, 117, 101]⟩ : ByteArray), (⟨#[102, 97, 108, 115, 101]⟩ : ByteArray)] : List ByteArray)) 0
theorem tabardref04_Reserved.mono_l : ∀ k, (∀ y0 y1 y2, LeO (tabardref04_Reserved.l0 k y0 y1 y2) (tabardref04_Reserved.l0 (k + 1) y0 y1 y2))
 | 0 => fun _ _ _ r h => by simp [tabardref04_Reserved.l0] at h
 | k + 1 => by
  have ih0 := tabardref04_Reserved.mono_l k
  ·intro y0 y1 y2
   unfold tabardref04_Reserved.l0
   repeat' first | (with_reducible first | exact ih0 _ _ _ | exact lA | apply lI | refine lB ?_ fun _ => ?_) | exact lN _ | apply lI | refine lB ?_ fun _ => ?_
theorem tabardref04_Reserved.mono : ∀ a0 k, LeO (tabardref04_Reserved.f k a0) (tabardref04_Reserved.f (k + 1) a0) := by
 intro a0 k; have ih0 := tabardref04_Reserved.mono_l k
 unfold tabardref04_Reserved.f
 repeat' first | (with_reducible first | exact ih0 _ _ _ | exact lA | apply lI | refine lB ?_ fun _ => ?_) | exact lN _ | apply lI | refine lB ?_ fun _ => ?_
theorem tabardref04_Reserved.calls (k : Nat) (O : ByteArray) (r : Bool) (w : World) (h : tabardref04_Reserved.f k O = some r) :
  Calls Try.prog 97 #[.string O] w fun e w' => e = .returned (.bool r) ∧ Below w.heap.size w w' := by
 have HB := aM (Below.refl w.heap.size w); rw [tabardref04_Reserved.f] at h; have H := h; clear h; obtain ⟨C, E⟩ : ∃ y_ : List ByteArray, y_ = (([(⟨#[97, 110, 100]⟩ : ByteArray), (⟨#[111, 114]⟩ : ByteArray), (⟨#[110, 111, 116]⟩ : ByteArray), (⟨#[101, 120]⟩ : ByteArray), (⟨#[97, 108, 108]⟩ : ByteArray), (⟨#[109, 111, 100]⟩ : ByteArray), (⟨#[116, 114, 117, 101]⟩ : ByteArray), (⟨#[102, 97, 108, 115, 101]⟩ : ByteArray)] : List ByteArray)) := ⟨_, rfl⟩
 first | replace H := rI E H | rw [← E] at H
 have P := aM E; clear E; have H' := aM H; clear H
 go_enter Try.func97, Try.ntmps97
 go_wp2_with (first | ((with_reducible refine gate_dst (N := 5) rfl ?_); refine Kd.R_lit Kd.string _ 9 ?hg (N := 5) ?hd (xs := ([(⟨#[97, 110, 100]⟩ : ByteArray), (⟨#[111, 114]⟩ : ByteArray), (⟨#[110, 111, 116]⟩ : ByteArray), (⟨#[101, 120]⟩ : ByteArray), (⟨#[97, 108, 108]⟩ : ByteArray), (⟨#[109, 111, 100]⟩ : ByteArray), (⟨#[116, 114, 117, 101]⟩ : ByteArray), (⟨#[102, 97, 108, 115, 101]⟩ : ByteArray)] : List ByteArray)) (inner := [.string (⟨#[97, 110, 100]⟩ : ByteArray), .string (⟨#[111, 114]⟩ : ByteArray), .string (⟨#[110, 111, 116]⟩ : ByteArray), .string (⟨#[101, 120]⟩ : ByteArray), .string (⟨#[97, 108, 108]⟩ : ByteArray), .string (⟨#[109, 111, 100]⟩ : ByteArray), .string (⟨#[116, 114, 117, 101]⟩ : ByteArray), .string (⟨#[102, 97, 108, 115, 101]⟩ : ByteArray)]) (ok := fun _ => True) (okp := fun _ => True) ?hr ?hp (fun _ hk => hk) trivial (Below.refl _ _) (Nat.le_refl _) (by simp) ?_; (case hd => rfl); (case hg => rfl); (case hr => first | (go_simp; done) | (go_simp; rfl)); (case hp => exact (Reps.one (show Kd.M Kd.string _ _ _ (⟨#[97, 110, 100]⟩ : ByteArray) [.string (⟨#[97, 110, 100]⟩ : ByteArray)] from rfl) (Reps.one (show Kd.M Kd.string _ _ _ (⟨#[111, 114]⟩ : ByteArray) [.string (⟨#[111, 114]⟩ : ByteArray)] from rfl) (Reps.one (show Kd.M Kd.string _ _ _ (⟨#[110, 111, 116]⟩ : ByteArray) [.string (⟨#[110, 111, 116]⟩ : ByteArray)] from rfl) (Reps.one (show Kd.M Kd.string _ _ _ (⟨#[101, 120]⟩ : ByteArray) [.string (⟨#[101, 120]⟩ : ByteArray)] from rfl) (Reps.one (show Kd.M Kd.string _ _ _ (⟨#[97, 108, 108]⟩ : ByteArray) [.string (⟨#[97, 108, 108]⟩ : ByteArray)] from rfl) (Reps.one (show Kd.M Kd.string _ _ _ (⟨#[109, 111, 100]⟩ : ByteArray) [.string (⟨#[109, 111, 100]⟩ : ByteArray)] from rfl) (Reps.one (show Kd.M Kd.string _ _ _ (⟨#[116, 114, 117, 101]⟩ : ByteArray) [.string (⟨#[116, 114, 117, 101]⟩ : ByteArray)] from rfl) (Reps.one (show Kd.M Kd.string _ _ _ (⟨#[102, 97, 108, 115, 101]⟩ : ByteArray) [.string (⟨#[102, 97, 108, 115, 101]⟩ : ByteArray)] from rfl) (Reps.none _ _)))))))))); intro W w2 G hb hg_ hnew_; clear hg_ hnew_; replace G := nW P G; have Q := rW G (bP0 HB); replace HB := hS0 HB hb; clear hb G))
 go_loopg [4] k (fun kq v4 w' => ∃ (z : Int), v4 = .int .i64 z ∧ Aside0 (tabardref04_Reserved.l0 kq O C z = some r) ∧ Aside0 (kq ≤ k) ∧ RA Kd.string 9 w' w W C ∧ BA w w')
 case atStart => exact ⟨(0), sI, H', ⟨Nat.le_refl _⟩, rQ Q, bT0 HB⟩
 case round =>
  clear H'
  obtain ⟨z, rfl, HA, HK1, D, HB⟩ := hrel; cases gk with
  | zero => exact absurd HA.out (by simp [tabardref04_Reserved.l0])
  | succ k1 =>
   have H := HA.out; clear HA; simp only [tabardref04_Reserved.l0] at H
   by_cases I : z < (C.length : Int)
   ·rw [if_pos I] at H; have Y := dT I; clear I
    by_cases U : 0 ≤ z
    ·rw [if_pos U] at H; have af := dT U; clear U
     by_cases L : (rdOf ByteArray.empty C z).toList = O.toList
     ·rw [if_pos L] at H; obtain ⟨Z, aa⟩ := bq L; clear L; obtain rfl := Option.some.inj H; obtain ⟨ag, ah, ab⟩ := sL D; subst ab; have A : 0 ≤ (z : Int) := oT aO; have B : z < (C.length : Int) := oT aO; obtain ⟨V, F, J⟩ := Kd.at_string (rR D).2.2 z A B; cases F; replace A := eq_true A; replace B := eq_true B
      go_wp2
      go_ret
      exact ⟨eW, bO HB.out⟩
     ·rw [if_neg L] at H; obtain ⟨Z, aa⟩ := bn L; have H' := aM H; clear H; obtain ⟨ai, aj, ac⟩ := sL D; subst ac; have A : 0 ≤ (z : Int) := oT aO; have B : z < (C.length : Int) := oT aO; obtain ⟨V, F, J⟩ := Kd.at_string (rR D).2.2 z A B; cases F; replace A := eq_true A; replace B := eq_true B
      go_wp2
      go_roundg k1
      case measure => have := HK1.out; omega
      case rel => exact ⟨(wrap64 (z + 1)), sI, H', ⟨by have := HK1.out; omega⟩, rQ D, bT0 HB⟩
    ·exact nX U H
   ·rw [if_neg I] at H; have Y := decide_eq_false I; clear I; obtain rfl := Option.some.inj H; obtain ⟨ak, al, ad⟩ := sL D; subst ad
    go_wp2
    go_ret
    exact ⟨eW, bO HB.out⟩

/-! ### tabardref04_Name: function 75 -/
def tabardref04_Name.l0 : Nat → ByteArray → Int → Int → Option (Bool)
 | 0, _, _, _ => none
 | k + 1, x0, x3, x4 => if x4 < (x0.size : Int) then ((tabardref04_Read.f k x0 x4).bind fun bt239 => (if bt239.2.2 = true then (if x3 = 0 then ((tabardref04_Start.f k bt239.1).bind fun t242 => (if t242 = true then ((tabardref04_Rest.f k bt239.1).bind fun t243 => (if t243 = true then (tabardref04_Name.l0 k x0 (wrap64 (x3 + 1)) (wrap64 (x4 + bt239.2.1))) else (some false))) else (some false))) else ((tabardref04_Rest.f k bt239.1).bind fun t244 => (if t244 = true then (tabardref04_Name.l0 k x0 (wrap64 (x3 + 1)) (wrap64 (x4 + bt239.2.1))) else (some false)))) else (some false))) else (if x3 ≥ 1 then (if x3 ≤ 16 then ((tabardref04_Reserved.f k x0).bind fun t238 => (some (!t238))) else (some false)) else (some false))
def tabardref04_Name.f (k : Nat) (a0 : ByteArray) : Option (Bool) := tabardref04_Name.l0 k a0 0 0
theorem tabardref04_Name.mono_l : ∀ k, (∀ y0 y1 y2, LeO (tabardref04_Name.l0 k y0 y1 y2) (tabardref04_Name.l0 (k + 1) y0 y1 y2))
 | 0 => fun _ _ _ r h => by simp [tabardref04_Name.l0] at h
 | k + 1 => by
  have ih0 := tabardref04_Name.mono_l k
  ·intro y0 y1 y2
   unfold tabardref04_Name.l0
   repeat' first | (with_reducible first | exact ih0 _ _ _ | exact tabardref04_Read.mono _ _ _ | exact tabardref04_Reserved.mono _ _ | exact tabardref04_Rest.mono _ _ | exact tabardref04_Start.mono _ _ | exact lA | apply lI | refine lB ?_ fun _ => ?_) | exact lN _ | apply lI | refine lB ?_ fun _ => ?_
theorem tabardref04_Name.mono : ∀ a0 k, LeO (tabardref04_Name.f k a0) (tabardref04_Name.f (k + 1) a0) := by
 intro a0 k; have ih0 := tabardref04_Name.mono_l k
 unfold tabardref04_Name.f
 repeat' first | (with_reducible first | exact ih0 _ _ _ | exact tabardref04_Read.mono _ _ _ | exact tabardref04_Reserved.mono _ _ | exact tabardref04_Rest.mono _ _ | exact tabardref04_Start.mono _ _ | exact lA | apply lI | refine lB ?_ fun _ => ?_) | exact lN _ | apply lI | refine lB ?_ fun _ => ?_
theorem tabardref04_Name.calls (k : Nat) (D : ByteArray) (r : Bool) (w : World) (h : tabardref04_Name.f k D = some r) :
  Calls Try.prog 75 #[.string D] w fun e w' => e = .returned (.bool r) ∧ Below w.heap.size w w' := by
 have HB := aM (Below.refl w.heap.size w); rw [tabardref04_Name.f] at h; have H := h; clear h; have H' := aM H; clear H
 go_enter Try.func75, Try.ntmps75
 go_wp2
 go_loopg [3, 4] k (fun kq v3 v4 w' => ∃ (B : Int) (z : Int), v3 = .int .i64 B ∧ v4 = .int .i64 z ∧ Aside0 (tabardref04_Name.l0 kq D B z = some r) ∧ Aside0 (kq ≤ k) ∧ BA w w')
 case atStart => exact ⟨(0), (0), sI, sI, H', ⟨Nat.le_refl _⟩, bT0 HB⟩
 case round =>
  clear H'; obtain ⟨B, z, rfl, rfl, HA, HK1, HB⟩ := hrel; cases gk with
  | zero => exact absurd HA.out (by simp [tabardref04_Name.l0])
  | succ k1 =>
   have H := HA.out; clear HA; simp only [tabardref04_Name.l0] at H
   by_cases O : z < (D.size : Int)
   ·rw [if_pos O] at H; have ah := dT O; clear O; replace H := Option.bind_eq_some_iff.mp H; obtain ⟨⟨A, C, Q⟩, ad, H⟩ := H; replace H : (if Q = true then (if B = 0 then ((tabardref04_Start.f k1 A).bind fun G => (if G = true then ((tabardref04_Rest.f k1 A).bind fun I => (if I = true then (tabardref04_Name.l0 k1 D (wrap64 (B + 1)) (wrap64 (z + C))) else (some false))) else (some false))) else ((tabardref04_Rest.f k1 A).bind fun J => (if J = true then (tabardref04_Name.l0 k1 D (wrap64 (B + 1)) (wrap64 (z + C))) else (some false)))) else (some false)) = some r := H; have P := aM ad; clear ad
    by_cases Y : Q = true
    ·subst Y
     rw [if_pos rfl] at H
     by_cases U : B = 0
     ·rw [if_pos U] at H; obtain ⟨ai, aj⟩ := bq U; clear U; replace H := Option.bind_eq_some_iff.mp H; obtain ⟨G, ae, H⟩ := H; have A6 := aM ae; clear ae
      by_cases Z : G = true
      ·subst Z
       rw [if_pos rfl] at H; replace H := Option.bind_eq_some_iff.mp H; obtain ⟨I, af, H⟩ := H; have A8 := aM af; clear af
       by_cases c9 : I = true
       ·subst c9
        rw [if_pos rfl] at H; have H' := aM H; clear H
        go_wp2_with (first | ((with_reducible refine gate_callee (f := 94) rfl ?_); refine gL_ (some 15) Try.func94 #[.string D, .int .i64 z] ?_; (with_reducible refine (tabardref04_Read.calls k1 D z A C true _ P.out).mono ?_); rintro e w' ⟨rfl, ⟨nd, rfl⟩⟩; refine ⟨_, rfl, ?_⟩) | (go_at_call 95; (with_reducible refine (tabardref04_Start.calls k1 A true _ A6.out).mono ?_); rintro e aq ⟨rfl, hb⟩; replace HB := hS0 HB hb; (try clear hb)) | (go_at_call 96; (with_reducible refine (tabardref04_Rest.calls k1 A true _ A8.out).mono ?_); rintro e ar ⟨rfl, hb⟩; replace HB := hS0 HB hb; (try clear hb)))
        go_roundg k1
        case measure => have := HK1.out; omega
        case rel => exact ⟨(wrap64 (B + 1)), (wrap64 (z + C)), sI, sI, H', ⟨by have := HK1.out; omega⟩, bT0 HB⟩
       ·replace c9 := Bool.eq_false_iff.mpr c9; subst c9
        rw [if_neg nF] at H; obtain rfl := Option.some.inj H
        go_wp2_with (first | ((with_reducible refine gate_callee (f := 94) rfl ?_); refine gL_ (some 15) Try.func94 #[.string D, .int .i64 z] ?_; (with_reducible refine (tabardref04_Read.calls k1 D z A C true _ P.out).mono ?_); rintro e w' ⟨rfl, ⟨nd, rfl⟩⟩; refine ⟨_, rfl, ?_⟩) | (go_at_call 95; (with_reducible refine (tabardref04_Start.calls k1 A true _ A6.out).mono ?_); rintro e au ⟨rfl, hb⟩; replace HB := hS0 HB hb; (try clear hb)) | (go_at_call 96; (with_reducible refine (tabardref04_Rest.calls k1 A false _ A8.out).mono ?_); rintro e av ⟨rfl, hb⟩; replace HB := hS0 HB hb; (try clear hb)))
        go_ret
        exact ⟨eW, bO HB.out⟩
      ·replace Z := Bool.eq_false_iff.mpr Z; subst Z
       rw [if_neg nF] at H; obtain rfl := Option.some.inj H
       go_wp2_with (first | ((with_reducible refine gate_callee (f := 94) rfl ?_); refine gL_ (some 15) Try.func94 #[.string D, .int .i64 z] ?_; (with_reducible refine (tabardref04_Read.calls k1 D z A C true _ P.out).mono ?_); rintro e w' ⟨rfl, ⟨nd, rfl⟩⟩; refine ⟨_, rfl, ?_⟩) | (go_at_call 95; (with_reducible refine (tabardref04_Start.calls k1 A false _ A6.out).mono ?_); rintro e aw ⟨rfl, hb⟩; replace HB := hS0 HB hb; (try clear hb)))
       go_ret
       exact ⟨eW, bO HB.out⟩
     ·rw [if_neg U] at H; obtain ⟨ai, aj⟩ := bn U; replace H := Option.bind_eq_some_iff.mp H; obtain ⟨J, V, H⟩ := H; have ag := aM V; clear V
      by_cases L : J = true
      ·subst L
       rw [if_pos rfl] at H; have H' := aM H; clear H
       go_wp2_with (first | ((with_reducible refine gate_callee (f := 94) rfl ?_); refine gL_ (some 15) Try.func94 #[.string D, .int .i64 z] ?_; (with_reducible refine (tabardref04_Read.calls k1 D z A C true _ P.out).mono ?_); rintro e w' ⟨rfl, ⟨nd, rfl⟩⟩; refine ⟨_, rfl, ?_⟩) | (go_at_call 96; (with_reducible refine (tabardref04_Rest.calls k1 A true _ ag.out).mono ?_); rintro e ax ⟨rfl, hb⟩; replace HB := hS0 HB hb; (try clear hb)))
       go_roundg k1
       case measure => have := HK1.out; omega
       case rel => exact ⟨(wrap64 (B + 1)), (wrap64 (z + C)), sI, sI, H', ⟨by have := HK1.out; omega⟩, bT0 HB⟩
      ·replace L := Bool.eq_false_iff.mpr L; subst L
       rw [if_neg nF] at H; obtain rfl := Option.some.inj H
       go_wp2_with (first | ((with_reducible refine gate_callee (f := 94) rfl ?_); refine gL_ (some 15) Try.func94 #[.string D, .int .i64 z] ?_; (with_reducible refine (tabardref04_Read.calls k1 D z A C true _ P.out).mono ?_); rintro e w' ⟨rfl, ⟨nd, rfl⟩⟩; refine ⟨_, rfl, ?_⟩) | (go_at_call 96; (with_reducible refine (tabardref04_Rest.calls k1 A false _ ag.out).mono ?_); rintro e ay ⟨rfl, hb⟩; replace HB := hS0 HB hb; (try clear hb)))
       go_ret
       exact ⟨eW, bO HB.out⟩
    ·replace Y := Bool.eq_false_iff.mpr Y; subst Y
     rw [if_neg nF] at H; obtain rfl := Option.some.inj H
     go_wp2_with (first | ((with_reducible refine gate_callee (f := 94) rfl ?_); refine gL_ (some 15) Try.func94 #[.string D, .int .i64 z] ?_; (with_reducible refine (tabardref04_Read.calls k1 D z A C false _ P.out).mono ?_); rintro e w' ⟨rfl, ⟨nd, rfl⟩⟩; refine ⟨_, rfl, ?_⟩))
     go_ret
     exact ⟨eW, bO HB.out⟩
   ·rw [if_neg O] at H; have ah := decide_eq_false O; clear O
    by_cases E : B ≥ 1
    ·rw [if_pos E] at H; have ab := dT E; clear E
     by_cases F : B ≤ 16
     ·rw [if_pos F] at H; have ac := dT F; clear F; replace H := Option.bind_eq_some_iff.mp H; obtain ⟨al, W, H⟩ := H; have an := aM W; clear W; obtain rfl := Option.some.inj H
      go_wp2_with (first | (go_at_call 97; (with_reducible refine (tabardref04_Reserved.calls k1 D al _ an.out).mono ?_); rintro e az ⟨rfl, hb⟩; replace HB := hS0 HB hb; (try clear hb)))
      go_ret
      exact ⟨eW, bO HB.out⟩
     ·rw [if_neg F] at H; have ac := decide_eq_false F; clear F; obtain rfl := Option.some.inj H
      go_wp2
      go_ret
      exact ⟨eW, bO HB.out⟩
    ·rw [if_neg E] at H; have ab := decide_eq_false E; clear E; obtain rfl := Option.some.inj H
     go_wp2
     go_ret
     exact ⟨eW, bO HB.out⟩

end Go.Proofs.Ythgoonohpfoagaa.X
namespace Go.Proofs.Ythgoonohpfoagaa.X
open Go.RowKit Go.Proofs.YthgoonohpfoagaaW.PrintWords Go.Proofs.YthgoonohpfoagaaW.PrintLast Go.Proofs.YthgoonohpfoagaaW.PrintMore
attribute [local go_sem] max2_int min2_int max_two min_two max_three min_three max_four min_four
set_option linter.unusedVariables false
set_option linter.unusedSimpArgs false
set_option maxHeartbeats 8000000
set_option maxRecDepth 100000

/-! ### tabardref04_Rises: function 51 -/
def tabardref04_Rises.l0 : Nat → List ByteArray → Int → Option (Bool)
 | 0, _, _ => none
 | k + 1, x0, x3 => if x3 < (x0.length : Int) then (if 0 ≤ x3 then ((tabardref04_Name.f k (rdOf ByteArray.empty x0 x3)).bind fun t246 => (if t246 = true then (if x3 > 0 then (if 0 ≤ (wrap64 (x3 - 1)) then (if (wrap64 (x3 - 1)) < (x0.length : Int) then (if ((Op.bytesLess ((rdOf ByteArray.empty x0 (wrap64 (x3 - 1))).toList) ((rdOf ByteArray.empty x0 x3).toList)) = true) then (tabardref04_Rises.l0 k x0 (wrap64 (x3 + 1))) else (some false)) else (none)) else (none)) else (tabardref04_Rises.l0 k x0 (wrap64 (x3 + 1)))) else (some false))) else (none)) else (some true)
def tabardref04_Rises.f (k : Nat) (l0 : List ByteArray) : Option (Bool) := tabardref04_Rises.l0 k l0 0
theorem tabardref04_Rises.mono_l : ∀ k, (∀ y0 y1, LeO (tabardref04_Rises.l0 k y0 y1) (tabardref04_Rises.l0 (k + 1) y0 y1))
 | 0 => fun _ _ r h => by simp [tabardref04_Rises.l0] at h
 | k + 1 => by
  have ih0 := tabardref04_Rises.mono_l k
  ·intro y0 y1
   unfold tabardref04_Rises.l0
   repeat' first | (with_reducible first | exact ih0 _ _ | exact tabardref04_Name.mono _ _ | exact lA | apply lI | refine lB ?_ fun _ => ?_) | exact lN _ | apply lI | refine lB ?_ fun _ => ?_
theorem tabardref04_Rises.mono : ∀ a0 k, LeO (tabardref04_Rises.f k a0) (tabardref04_Rises.f (k + 1) a0) := by
 intro a0 k; have ih0 := tabardref04_Rises.mono_l k
 unfold tabardref04_Rises.f
 repeat' first | (with_reducible first | exact ih0 _ _ | exact tabardref04_Name.mono _ _ | exact lA | apply lI | refine lB ?_ fun _ => ?_) | exact lN _ | apply lI | refine lB ?_ fun _ => ?_
def tabardref04_Rises.T4 : Bool × List (List Nat × List Nat) := (true, [([], []), ([], []), ([0, 1], [0, 1]), ([2], [2]), ([3], [3]), ([4], [4]), ([5, 4], [5]), ([6], [6]), ([7, 6], [6, 7]), ([8, 6, 6], [6, 8]), ([9], [9]), ([9], [9]), ([11, 9], [9, 11]), ([10, 12, 9], [9, 10, 12]), ([13, 9], [9, 13]), ([9], [9]), ([9], [9]), ([15, 16, 9], [9, 15, 16]), ([17, 9], [9, 17]), ([14, 18, 9], [9, 14, 18]), ([9, 19, 6], [6, 9, 19]), ([6, 20], [6, 20])])
def tabardref04_Rises.B4 : List Nat := [0, 0, 3, 7, 15, 31, 63, 127, 255, 511, 1023, 1023, 3071, 8191, 16383, 1023, 1023, 99327, 230399, 524287, 1048575, 2097151]
theorem tabardref04_Rises.tab4 : rtab .any (opsOf Try.f51 4) = tabardref04_Rises.T4 := by kernel_rfl
theorem tabardref04_Rises.bits4 : waitsOk tabardref04_Rises.T4.2 tabardref04_Rises.B4 = true := by kernel_rfl
theorem tabardref04_Rises.calls (k : Nat) (A0 : Option Addr) (c0 : Nat) (E : List ByteArray) (r : Bool) (w : World) (an : Kd.C Kd.string w A0 E.length E) (ao : E.length ≤ c0) (h : tabardref04_Rises.f k E = some r) :
  Calls Try.prog 51 #[.slice A0 E.length c0] w fun e w' => e = .returned (.bool r) ∧ Below w.heap.size w w' := by
 have W := aM an; have aB := aM ao; clear an ao; have HB := aM (Below.refl w.heap.size w); rw [tabardref04_Rises.f] at h; have H := h; clear h; have H' := aM H; clear H
 go_enter Try.func51, Try.ntmps51
 go_wp2
 go_loopg [3] k (fun kq v3 w' => ∃ (z : Int), v3 = .int .i64 z ∧ Aside0 (tabardref04_Rises.l0 kq E z = some r) ∧ Aside0 (kq ≤ k) ∧ BA w w')
 case atStart => exact ⟨(0), sI, H', ⟨Nat.le_refl _⟩, bT0 HB⟩
 case round =>
  clear H'; obtain ⟨z, rfl, HA, HK1, HB⟩ := hrel; cases gk with
  | zero => exact absurd HA.out (by simp [tabardref04_Rises.l0])
  | succ k1 =>
   have H := HA.out; clear HA; simp only [tabardref04_Rises.l0] at H
   by_cases c2 : z < (E.length : Int)
   ·rw [if_pos c2] at H; have aq := dT c2; clear c2
    by_cases c3 : 0 ≤ z
    ·rw [if_pos c3] at H; have ay := dT c3; clear c3; replace H := Option.bind_eq_some_iff.mp H; obtain ⟨ar, ap, H⟩ := H; have A4 := aM ap; clear ap
     by_cases c5 : ar = true
     ·subst c5
      rw [if_pos rfl] at H
      by_cases c6 : z > 0
      ·rw [if_pos c6] at H; have au := dT c6; clear c6; obtain ⟨O, Y⟩ : ∃ j_ : Int, (wrap64 (z - 1)) = j_ := ⟨_, rfl⟩
       first | rw [Y] at H | simp only [Y] at H
       (try rw [Y] at A4)
       have hji7w : (IntKind.i64.wrap (z - 1)) = O := (i64_w _).trans Y
       by_cases c8 : 0 ≤ (O)
       ·rw [if_pos c8] at H; have az := dT c8; clear c8
        by_cases c9 : (O) < (E.length : Int)
        ·rw [if_pos c9] at H; have aA := dT c9; clear c9
         by_cases Z : ((Op.bytesLess ((rdOf ByteArray.empty E (O)).toList) ((rdOf ByteArray.empty E z).toList)) = true)
         ·rw [if_pos Z] at H; have am : (Op.bytesLess ((rdOf ByteArray.empty E (O)).toList) ((rdOf ByteArray.empty E z).toList)) = true := Z; clear Z; have H' := aM H; clear H
          try go_wp2
          replace HB := aM (below_drew1 HB.out); have L : 0 ≤ (z : Int) := oT aO; have M : z < (E.length : Int) := oT aO; obtain ⟨D, P, A⟩ := Kd.at_string W.out z L M; have B := A; cases P; replace A := cX HB A; replace L := eq_true L; replace M := eq_true M; have Q : 0 ≤ ((O) : Int) := oT aO; have R : (O) < (E.length : Int) := oT aO; obtain ⟨aa, ac, F⟩ := Kd.at_string W.out (O) Q R; have G := F; have he_ : D = aa := (by injection ac); subst he_; replace F := cX HB F; replace Q := eq_true Q; replace R := eq_true R; have U : 0 ≤ (z : Int) := oT aO; have V : z < (E.length : Int) := oT aO; obtain ⟨ab, ad, I⟩ := Kd.at_string W.out z U V; have J := I; have he_ : D = ab := (by injection ad); subst he_; replace I := cX HB I; replace U := eq_true U; replace V := eq_true V; refine start_ (n := 22) (S := fun w' => w'.cell? (D.add (z).toNat) = some (.string (rdOf ByteArray.empty E z)) ∧ w'.cell? (D.add ((O)).toNat) = some (.string (rdOf ByteArray.empty E (O))) ∧ w'.cell? (D.add (z).toNat) = some (.string (rdOf ByteArray.empty E z))) (ds := []) (bl 22 0) (by kernel_rfl) rfl rfl ⟨((HB.out.cell (World.block_lt_of_cell? w _ B)).trans B), ((HB.out.cell (World.block_lt_of_cell? w _ G)).trans G), ((HB.out.cell (World.block_lt_of_cell? w _ J)).trans J)⟩ (fun hHeld => ?_); refine with_tabW tabardref04_Rises.tab4 tabardref04_Rises.bits4 (fun HT_ HW_ => ?_); generalize wr.drew = aC at HB A F I hHeld ⊢; refine pu_ 0 10 (bl 22 1) HT_ ?_; refine pu_ 1 11 (bl 22 3) HT_ ?_; refine pu_ 2 12 (bl 22 7) HT_ ?_; refine tk3_ 3 13 (bl 22 15) HT_ HW_ hHeld ?_; refine one_ (i := 4) (N := some 14) (bl 22 31) rfl rfl (one_of HT_.out (by kernel_rfl)) (by decide) (fun K hK => ?_); refine gS_ Try.func75 #[.string (rdOf ByteArray.empty E z)] ?_
          with_reducible refine (tabardref04_Name.calls k1 (rdOf ByteArray.empty E z) true _ A4.out).mono ?_
          rintro e aD ⟨rfl, hb⟩; refine ⟨_, rfl, ?_⟩; replace HB := hS0 HB hb
          (try clear hb)
          (try clear ah)
          (try clear hk)
          (try clear hi)
          refine hK.out _ _ ⟨((HB.out.cell (World.block_lt_of_cell? w _ B)).trans B), ((HB.out.cell (World.block_lt_of_cell? w _ G)).trans G), ((HB.out.cell (World.block_lt_of_cell? w _ J)).trans J)⟩ (fun hHeld => ?_); clear hK K; refine nm_ 14 ?_; refine pu_ 5 15 (bl 22 63) HT_ ?_; refine pu_ 6 16 (bl 22 127) HT_ ?_; refine pu_ 7 17 (bl 22 255) HT_ ?_; refine pu_ 8 18 (bl 22 511) HT_ ?_; refine pu_ 9 19 (bl 22 1023) HT_ ?_; refine pu_ 10 20 (bl 22 2047) HT_ ?_; refine pu_ 11 21 (bl 22 4095) HT_ ?_; refine pu_ 12 22 (bl 22 8191) HT_ ?_; refine pu_ 13 23 (bl 22 16383) HT_ ?_; refine pu_ 15 25 (bl 22 49151) HT_ ?_; refine pu_ 16 26 (bl 22 114687) HT_ ?_; refine pu_ 17 27 (bl 22 245759) HT_ ?_; refine tk3_ 14 24 (bl 22 262143) HT_ HW_ hHeld ?_; refine tk3_ 18 28 (bl 22 524287) HT_ HW_ hHeld ?_; refine pu_ 19 29 (bl 22 1048575) HT_ ?_; refine pu_ 20 30 (bl 22 2097151) HT_ ?_; refine pu_ 21 31 (bl 22 4194303) HT_ ?_; refine done_ (done_of HT_.out (by kernel_rfl)) ?_
          try go_wp2
          go_roundg k1
          case measure => have := HK1.out; omega
          case rel => exact ⟨(wrap64 (z + 1)), sI, H', ⟨by have := HK1.out; omega⟩, bT0 HB⟩
         ·rw [if_neg Z] at H
          have am : (Op.bytesLess ((rdOf ByteArray.empty E (O)).toList) ((rdOf ByteArray.empty E z).toList)) = false := by simpa using Z
          clear Z; obtain rfl := Option.some.inj H
          try go_wp2
          replace HB := aM (below_drew1 HB.out); have L : 0 ≤ (z : Int) := oT aO; have M : z < (E.length : Int) := oT aO; obtain ⟨D, P, A⟩ := Kd.at_string W.out z L M; have B := A; cases P; replace A := cX HB A; replace L := eq_true L; replace M := eq_true M; have Q : 0 ≤ ((O) : Int) := oT aO; have R : (O) < (E.length : Int) := oT aO; obtain ⟨aa, ac, F⟩ := Kd.at_string W.out (O) Q R; have G := F; have he_ : D = aa := (by injection ac); subst he_; replace F := cX HB F; replace Q := eq_true Q; replace R := eq_true R; have U : 0 ≤ (z : Int) := oT aO; have V : z < (E.length : Int) := oT aO; obtain ⟨ab, ad, I⟩ := Kd.at_string W.out z U V; have J := I; have he_ : D = ab := (by injection ad); subst he_; replace I := cX HB I; replace U := eq_true U; replace V := eq_true V; refine start_ (n := 22) (S := fun w' => w'.cell? (D.add (z).toNat) = some (.string (rdOf ByteArray.empty E z)) ∧ w'.cell? (D.add ((O)).toNat) = some (.string (rdOf ByteArray.empty E (O))) ∧ w'.cell? (D.add (z).toNat) = some (.string (rdOf ByteArray.empty E z))) (ds := []) (bl 22 0) (by kernel_rfl) rfl rfl ⟨((HB.out.cell (World.block_lt_of_cell? w _ B)).trans B), ((HB.out.cell (World.block_lt_of_cell? w _ G)).trans G), ((HB.out.cell (World.block_lt_of_cell? w _ J)).trans J)⟩ (fun hHeld => ?_); refine with_tabW tabardref04_Rises.tab4 tabardref04_Rises.bits4 (fun HT_ HW_ => ?_); generalize wr.drew = aE at HB A F I hHeld ⊢; refine pu_ 0 10 (bl 22 1) HT_ ?_; refine pu_ 1 11 (bl 22 3) HT_ ?_; refine pu_ 2 12 (bl 22 7) HT_ ?_; refine tk3_ 3 13 (bl 22 15) HT_ HW_ hHeld ?_; refine one_ (i := 4) (N := some 14) (bl 22 31) rfl rfl (one_of HT_.out (by kernel_rfl)) (by decide) (fun K hK => ?_); refine gS_ Try.func75 #[.string (rdOf ByteArray.empty E z)] ?_
          with_reducible refine (tabardref04_Name.calls k1 (rdOf ByteArray.empty E z) true _ A4.out).mono ?_
          rintro e aF ⟨rfl, hb⟩; refine ⟨_, rfl, ?_⟩; replace HB := hS0 HB hb
          (try clear hb)
          (try clear ah)
          (try clear hk)
          (try clear hi)
          refine hK.out _ _ ⟨((HB.out.cell (World.block_lt_of_cell? w _ B)).trans B), ((HB.out.cell (World.block_lt_of_cell? w _ G)).trans G), ((HB.out.cell (World.block_lt_of_cell? w _ J)).trans J)⟩ (fun hHeld => ?_); clear hK K; refine nm_ 14 ?_; refine pu_ 5 15 (bl 22 63) HT_ ?_; refine pu_ 6 16 (bl 22 127) HT_ ?_; refine pu_ 7 17 (bl 22 255) HT_ ?_; refine pu_ 8 18 (bl 22 511) HT_ ?_; refine pu_ 9 19 (bl 22 1023) HT_ ?_; refine pu_ 10 20 (bl 22 2047) HT_ ?_; refine pu_ 11 21 (bl 22 4095) HT_ ?_; refine pu_ 12 22 (bl 22 8191) HT_ ?_; refine pu_ 13 23 (bl 22 16383) HT_ ?_; refine pu_ 15 25 (bl 22 49151) HT_ ?_; refine pu_ 16 26 (bl 22 114687) HT_ ?_; refine pu_ 17 27 (bl 22 245759) HT_ ?_; refine tk3_ 14 24 (bl 22 262143) HT_ HW_ hHeld ?_; refine tk3_ 18 28 (bl 22 524287) HT_ HW_ hHeld ?_; refine pu_ 19 29 (bl 22 1048575) HT_ ?_; refine pu_ 20 30 (bl 22 2097151) HT_ ?_; refine pu_ 21 31 (bl 22 4194303) HT_ ?_; refine done_ (done_of HT_.out (by kernel_rfl)) ?_
          try go_wp2
          go_ret
          exact ⟨by first | rfl | (simp [errW_none, errW_some] <;> rfl) | (simp only [← Y]; first | rfl | (simp [errW_none, errW_some] <;> rfl)) | (simp [*, errW_none, errW_some] <;> rfl), bO HB.out⟩
        ·exact nX c9 H
       ·exact nX c8 H
      ·rw [if_neg c6] at H; have au := decide_eq_false c6; clear c6; have H' := aM H; clear H
       try go_wp2
       replace HB := aM (below_drew1 HB.out); have L : 0 ≤ (z : Int) := oT aO; have M : z < (E.length : Int) := oT aO; obtain ⟨D, P, A⟩ := Kd.at_string W.out z L M; have B := A; cases P; replace A := cX HB A; replace L := eq_true L; replace M := eq_true M; refine start_ (n := 22) (S := fun w' => w'.cell? (D.add (z).toNat) = some (.string (rdOf ByteArray.empty E z))) (ds := []) (bl 22 0) (by kernel_rfl) rfl rfl (((HB.out.cell (World.block_lt_of_cell? w _ B)).trans B)) (fun hHeld => ?_); refine with_tabW tabardref04_Rises.tab4 tabardref04_Rises.bits4 (fun HT_ HW_ => ?_); generalize wr.drew = aG at HB A hHeld ⊢; refine pu_ 0 10 (bl 22 1) HT_ ?_; refine pu_ 1 11 (bl 22 3) HT_ ?_; refine pu_ 2 12 (bl 22 7) HT_ ?_; refine take_ (i := 3) (N := some 13) (v := ?_) (a' := ?_) (bl 22 15) rfl rfl (take_ofW HT_.out HW_.out (by kernel_rfl)) (fun _ _ _ h => h) (Or.inl ⟨by rfl, ?_⟩) hHeld ?_ ?_; rotate_left
       ·intro w' s0
        go_simp
        with_reducible rfl
       rotate_left
       ·simp only [Act.put, sA, sB, sC, i64_w, i32_w]
        rfl
       refine one_ (i := 4) (N := some 14) (bl 22 31) rfl rfl (one_of HT_.out (by kernel_rfl)) (by decide) (fun K hK => ?_); refine gS_ Try.func75 #[.string (rdOf ByteArray.empty E z)] ?_
       with_reducible refine (tabardref04_Name.calls k1 (rdOf ByteArray.empty E z) true _ A4.out).mono ?_
       rintro e aH ⟨rfl, hb⟩; refine ⟨_, rfl, ?_⟩; replace HB := hS0 HB hb
       (try clear hb)
       (try clear ah)
       (try clear hk)
       (try clear hi)
       refine hK.out _ _ (((HB.out.cell (World.block_lt_of_cell? w _ B)).trans B)) (fun hHeld => ?_); clear hK K; refine nm_ 14 ?_; refine pu_ 5 15 (bl 22 63) HT_ ?_; refine pu_ 6 16 (bl 22 127) HT_ ?_; refine pu_ 7 17 (bl 22 255) HT_ ?_; refine pu_ 8 18 (bl 22 511) HT_ ?_; refine pu_ 9 19 (bl 22 1023) HT_ ?_; refine pn_ 10 20 (bl 22 2047) HT_ ?_; refine pn_ 11 21 (bl 22 4095) HT_ ?_; refine pn_ 12 22 (bl 22 8191) HT_ ?_; refine pn_ 13 23 (bl 22 16383) HT_ ?_; refine pn_ 14 24 (bl 22 32767) HT_ ?_; refine pn_ 15 25 (bl 22 65535) HT_ ?_; refine pn_ 16 26 (bl 22 131071) HT_ ?_; refine pn_ 17 27 (bl 22 262143) HT_ ?_; refine pn_ 18 28 (bl 22 524287) HT_ ?_; refine pn_ 19 29 (bl 22 1048575) HT_ ?_; refine pu_ 20 30 (bl 22 2097151) HT_ ?_; refine pu_ 21 31 (bl 22 4194303) HT_ ?_; refine done_ (done_of HT_.out (by kernel_rfl)) ?_
       try go_wp2
       go_roundg k1
       case measure => have := HK1.out; omega
       case rel => exact ⟨(wrap64 (z + 1)), sI, H', ⟨by have := HK1.out; omega⟩, bT0 HB⟩
     ·replace c5 := Bool.eq_false_iff.mpr c5; subst c5
      rw [if_neg nF] at H; obtain rfl := Option.some.inj H
      try go_wp2
      replace HB := aM (below_drew1 HB.out); have L : 0 ≤ (z : Int) := oT aO; have M : z < (E.length : Int) := oT aO; obtain ⟨D, P, A⟩ := Kd.at_string W.out z L M; have B := A; cases P; replace A := cX HB A; replace L := eq_true L; replace M := eq_true M; refine start_ (n := 22) (S := fun w' => w'.cell? (D.add (z).toNat) = some (.string (rdOf ByteArray.empty E z))) (ds := []) (bl 22 0) (by kernel_rfl) rfl rfl (((HB.out.cell (World.block_lt_of_cell? w _ B)).trans B)) (fun hHeld => ?_); refine with_tabW tabardref04_Rises.tab4 tabardref04_Rises.bits4 (fun HT_ HW_ => ?_); generalize wr.drew = aI at HB A hHeld ⊢; refine pu_ 0 10 (bl 22 1) HT_ ?_; refine pu_ 1 11 (bl 22 3) HT_ ?_; refine pu_ 2 12 (bl 22 7) HT_ ?_; refine take_ (i := 3) (N := some 13) (v := ?_) (a' := ?_) (bl 22 15) rfl rfl (take_ofW HT_.out HW_.out (by kernel_rfl)) (fun _ _ _ h => h) (Or.inl ⟨by rfl, ?_⟩) hHeld ?_ ?_; rotate_left
      ·intro w' s0
       go_simp
       with_reducible rfl
      rotate_left
      ·simp only [Act.put, sA, sB, sC, i64_w, i32_w]
       rfl
      refine one_ (i := 4) (N := some 14) (bl 22 31) rfl rfl (one_of HT_.out (by kernel_rfl)) (by decide) (fun K hK => ?_); refine gS_ Try.func75 #[.string (rdOf ByteArray.empty E z)] ?_
      with_reducible refine (tabardref04_Name.calls k1 (rdOf ByteArray.empty E z) false _ A4.out).mono ?_
      rintro e aJ ⟨rfl, hb⟩; refine ⟨_, rfl, ?_⟩; replace HB := hS0 HB hb
      (try clear hb)
      (try clear ah)
      (try clear hk)
      (try clear hi)
      refine hK.out _ _ (((HB.out.cell (World.block_lt_of_cell? w _ B)).trans B)) (fun hHeld => ?_); clear hK K; refine nm_ 14 ?_; refine pu_ 5 15 (bl 22 63) HT_ ?_; refine pu_ 6 16 (bl 22 127) HT_ ?_; refine pn_ 7 17 (bl 22 255) HT_ ?_; refine pn_ 8 18 (bl 22 511) HT_ ?_; refine pn_ 9 19 (bl 22 1023) HT_ ?_; refine pn_ 10 20 (bl 22 2047) HT_ ?_; refine pn_ 11 21 (bl 22 4095) HT_ ?_; refine pn_ 12 22 (bl 22 8191) HT_ ?_; refine pn_ 13 23 (bl 22 16383) HT_ ?_; refine pn_ 14 24 (bl 22 32767) HT_ ?_; refine pn_ 15 25 (bl 22 65535) HT_ ?_; refine pn_ 16 26 (bl 22 131071) HT_ ?_; refine pn_ 17 27 (bl 22 262143) HT_ ?_; refine pn_ 18 28 (bl 22 524287) HT_ ?_; refine pn_ 19 29 (bl 22 1048575) HT_ ?_; refine pn_ 20 30 (bl 22 2097151) HT_ ?_; refine pu_ 21 31 (bl 22 4194303) HT_ ?_; refine done_ (done_of HT_.out (by kernel_rfl)) ?_
      try go_wp2
      go_ret
      exact ⟨eW, bO HB.out⟩
    ·exact nX c3 H
   ·rw [if_neg c2] at H; have aq := decide_eq_false c2; clear c2; obtain rfl := Option.some.inj H
    go_wp2
    go_ret
    exact ⟨eW, bO HB.out⟩

end Go.Proofs.Ythgoonohpfoagaa.X
namespace Go.Proofs.Ythgoonohpfoagaa.X
open Go.RowKit Go.Proofs.YthgoonohpfoagaaW.PrintWords Go.Proofs.YthgoonohpfoagaaW.PrintLast Go.Proofs.YthgoonohpfoagaaW.PrintMore
attribute [local go_sem] max2_int min2_int max_two min_two max_three min_three max_four min_four
set_option linter.unusedVariables false
set_option linter.unusedSimpArgs false
set_option maxHeartbeats 8000000
set_option maxRecDepth 100000

/-! ### tabardref12_Frame: function 35 -/
def tabardref12_Frame.f (k : Nat) (l0 : List ByteArray) (a1 : Int) : Option (Bool) := if (l0.length : Int) ≤ 6 then ((tabardref04_Rises.f k l0).bind fun t249 => (if t249 = true then (if a1 ≥ 1 then (some (decide (a1 ≤ 256))) else (none)) else (none))) else (none)
theorem tabardref12_Frame.mono : ∀ a0 a1 k, LeO (tabardref12_Frame.f k a0 a1) (tabardref12_Frame.f (k + 1) a0 a1) := by
 intro a0 a1 k
 unfold tabardref12_Frame.f
 repeat' first | (with_reducible first | exact tabardref04_Rises.mono _ _ | exact lA | apply lI | refine lB ?_ fun _ => ?_) | exact lN _ | apply lI | refine lB ?_ fun _ => ?_
theorem tabardref12_Frame.calls (k : Nat) (L : Option Addr) (M : Nat) (z : List ByteArray) (I : Int) (r : Bool) (w : World) (E : Kd.C Kd.string w L z.length z) (F : z.length ≤ M) (h : tabardref12_Frame.f k z I = some r) :
  Calls Try.prog 35 #[.slice L z.length M, .int .i64 I] w fun e w' => e = .returned (.bool r) ∧ Below w.heap.size w w' := by
 have N := aM E; have O := aM F; clear E F; have HB := aM (Below.refl w.heap.size w); rw [tabardref12_Frame.f] at h; have H := h; clear h
 by_cases A : (z.length : Int) ≤ 6
 ·rw [if_pos A] at H; have P := dT A; have Q : decide (z.length ≤ 6) = true := dT (by omega); clear A; replace H := Option.bind_eq_some_iff.mp H; obtain ⟨J, G, H⟩ := H; have R := aM G; clear G
  by_cases B : J = true
  ·subst B
   rw [if_pos rfl] at H
   by_cases D : I ≥ 1
   ·rw [if_pos D] at H; have U := dT D; clear D; obtain rfl := Option.some.inj H
    go_enter Try.func35, Try.ntmps35
    go_wp2_with (first | (go_at_call 51; (with_reducible refine (tabardref04_Rises.calls k _ _ z true _ ?s1 O.out R.out).mono ?_); (case s1 => exact cO N.out); rintro e V ⟨rfl, hb⟩; replace HB := hS0 HB hb; (try clear hb)))
    go_ret
    exact ⟨eW, bO HB.out⟩
   ·exact nX D H
  ·replace B := Bool.eq_false_iff.mpr B; subst B
   rw [if_neg nF] at H; exact absurd H (by simp)
 ·exact nX A H

end Go.Proofs.Ythgoonohpfoagaa.X
namespace Go.Proofs.Ythgoonohpfoagaa.X
open Go.RowKit Go.Proofs.YthgoonohpfoagaaW.PrintWords Go.Proofs.YthgoonohpfoagaaW.PrintLast Go.Proofs.YthgoonohpfoagaaW.PrintMore
attribute [local go_sem] max2_int min2_int max_two min_two max_three min_three max_four min_four
set_option linter.unusedVariables false
set_option linter.unusedSimpArgs false
set_option maxHeartbeats 8000000
set_option maxRecDepth 100000

/-! ### tabardref12_Right: function 16 -/
mutual
def tabardref12_Right.j0 : Nat → Int → Bool → List ByteArray → List Bool → List (List Int) → Option (Bool)
 | 0, _, _, _, _, _ => none
 | k + 1, x3, x20, x251000, x251001, x251002 => if x20 = true then (none) else (tabardref12_Right.l0 k x3 0 x251000 x251001 x251002)
def tabardref12_Right.l0 : Nat → Int → Int → List ByteArray → List Bool → List (List Int) → Option (Bool)
 | 0, _, _, _, _, _ => none
 | k + 1, x3, x4, x251000, x251001, x251002 => if x4 < x3 then (if 0 ≤ x4 then (if x4 < (x251002.length : Int) then ((tabardref12_Letters.f k (x251000.length : Int)).bind fun t253 => (if ((rd_L3 x251002 x4).length : Int) = t253 then (tabardref12_Right.l1 k x3 x4 0 x251000 x251001 x251002) else (none))) else (none)) else (none)) else (some true)
def tabardref12_Right.l1 : Nat → Int → Int → Int → List ByteArray → List Bool → List (List Int) → Option (Bool)
 | 0, _, _, _, _, _, _ => none
 | k + 1, x3, x4, x5, x251000, x251001, x251002 => if 0 ≤ x4 then (if x4 < (x251002.length : Int) then (if x5 < ((rd_L3 x251002 x4).length : Int) then (if 0 ≤ x5 then (if (rd (rd_L3 x251002 x4) x5) < 0 then (none) else (if (rd (rd_L3 x251002 x4) x5) ≥ x3 then (none) else (tabardref12_Right.l1 k x3 x4 (wrap64 (x5 + 1)) x251000 x251001 x251002))) else (none)) else (tabardref12_Right.l0 k x3 (wrap64 (x4 + 1)) x251000 x251001 x251002)) else (none)) else (none)
end
def tabardref12_Right.f (k : Nat) (l0_0 : List ByteArray) (l0_1 : List Bool) (l0_2 : List (List Int)) : Option (Bool) := (tabardref12_Frame.f k l0_0 (l0_1.length : Int)).bind fun t251 => (if t251 = true then (tabardref12_Right.j0 k (l0_1.length : Int) ((l0_2.length : Int) != (l0_1.length : Int)) l0_0 l0_1 l0_2) else (tabardref12_Right.j0 k (l0_1.length : Int) true l0_0 l0_1 l0_2))
theorem tabardref12_Right.mono_l : ∀ k, (∀ y0 y1 y2 y3 y4, LeO (tabardref12_Right.j0 k y0 y1 y2 y3 y4) (tabardref12_Right.j0 (k + 1) y0 y1 y2 y3 y4)) ∧ (∀ y0 y1 y2 y3 y4, LeO (tabardref12_Right.l0 k y0 y1 y2 y3 y4) (tabardref12_Right.l0 (k + 1) y0 y1 y2 y3 y4)) ∧ (∀ y0 y1 y2 y3 y4 y5, LeO (tabardref12_Right.l1 k y0 y1 y2 y3 y4 y5) (tabardref12_Right.l1 (k + 1) y0 y1 y2 y3 y4 y5))
 | 0 => ⟨fun _ _ _ _ _ r h => by simp [tabardref12_Right.j0] at h, fun _ _ _ _ _ r h => by simp [tabardref12_Right.l0] at h, fun _ _ _ _ _ _ r h => by simp [tabardref12_Right.l1] at h⟩
 | k + 1 => by
  obtain ⟨ih0, ih1, ih2⟩ := tabardref12_Right.mono_l k; refine ⟨?_, ?_, ?_⟩
  ·intro y0 y1 y2 y3 y4
   unfold tabardref12_Right.j0
   repeat' first | (with_reducible first | exact ih0 _ _ _ _ _ | exact ih1 _ _ _ _ _ | exact ih2 _ _ _ _ _ _ | exact tabardref12_Frame.mono _ _ _ | exact tabardref12_Letters.mono _ _ | exact lA | apply lI | refine lB ?_ fun _ => ?_) | exact lN _ | apply lI | refine lB ?_ fun _ => ?_
  ·intro y0 y1 y2 y3 y4
   unfold tabardref12_Right.l0
   repeat' first | (with_reducible first | exact ih0 _ _ _ _ _ | exact ih1 _ _ _ _ _ | exact ih2 _ _ _ _ _ _ | exact tabardref12_Frame.mono _ _ _ | exact tabardref12_Letters.mono _ _ | exact lA | apply lI | refine lB ?_ fun _ => ?_) | exact lN _ | apply lI | refine lB ?_ fun _ => ?_
  ·intro y0 y1 y2 y3 y4 y5
   unfold tabardref12_Right.l1
   repeat' first | (with_reducible first | exact ih0 _ _ _ _ _ | exact ih1 _ _ _ _ _ | exact ih2 _ _ _ _ _ _ | exact tabardref12_Frame.mono _ _ _ | exact tabardref12_Letters.mono _ _ | exact lA | apply lI | refine lB ?_ fun _ => ?_) | exact lN _ | apply lI | refine lB ?_ fun _ => ?_
theorem tabardref12_Right.mono : ∀ a0 a1 a2 k, LeO (tabardref12_Right.f k a0 a1 a2) (tabardref12_Right.f (k + 1) a0 a1 a2) := by
 intro a0 a1 a2 k; obtain ⟨ih0, ih1, ih2⟩ := tabardref12_Right.mono_l k
 unfold tabardref12_Right.f
 repeat' first | (with_reducible first | exact ih0 _ _ _ _ _ | exact ih1 _ _ _ _ _ | exact ih2 _ _ _ _ _ _ | exact tabardref12_Frame.mono _ _ _ | exact tabardref12_Letters.mono _ _ | exact lA | apply lI | refine lB ?_ fun _ => ?_) | exact lN _ | apply lI | refine lB ?_ fun _ => ?_
theorem tabardref12_Right.calls (k : Nat) (M : Option Addr) (O : Nat) (E : List ByteArray) (P : Option Addr) (Q : Nat) (D : List Bool) (W : Option Addr) (R : Nat) (B : List (List Int)) (r : Bool) (w : World) (aU : Kd.C Kd.string w M E.length E) (aV : E.length ≤ O) (aW : Kd.C Kd.bool w P D.length D) (aX : D.length ≤ Q) (aY : Kd.C (Kd.slice 3 (Kd.int .i64)) w W B.length B) (aZ : B.length ≤ R) (h : tabardref12_Right.f k E D B = some r) :
  Calls Try.prog 16 #[.agg #[.slice M E.length O, .slice P D.length Q, .slice W B.length R]] w fun e w' => e = .returned (.bool r) ∧ Below w.heap.size w w' := by
 have hu31 := Try.underlying31; have U := aM aU; have V := aM aV; clear aU aV; have ck := aM aW; have cl := aM aX; clear aW aX; have aa := aM aY; have cm := aM aZ; clear aY aZ; have HB := aM (Below.refl w.heap.size w); rw [tabardref12_Right.f] at h; have H := h; clear h; have bi := aM H; clear H
 go_enter Try.func16, Try.ntmps16
 go_upto_region 2 with (first | ((with_reducible refine gate_dst (N := 1) rfl ?_); (try (refine gate_guard (by rfl) ?_; dsimp only)); refine be_ (cs := #[.slice M E.length O, .slice P D.length Q, .slice W B.length R]) (t := 31) ?_; intro ab hg w3 hbox hb; have z := aM (hbox); have a3 := gE hg (bP0 HB); have F := gE hg (bP0 HB); replace HB := hS0 HB hb; clear hb hbox hg; obtain ⟨av, aw, ax, ay, az, aA⟩ := bG3 z))
 repeat (go_quiet (first | ((with_reducible refine gate_dst (N := 1) rfl ?_); (try (refine gate_guard (by rfl) ?_; dsimp only)); refine be_ (cs := #[.slice M E.length O, .slice P D.length Q, .slice W B.length R]) (t := 31) ?_; intro ab hg w3 hbox hb; have z := aM (hbox); have a3 := gE hg (bP0 HB); have F := gE hg (bP0 HB); replace HB := hS0 HB hb; clear hb hbox hg; obtain ⟨av, aw, ax, ay, az, aA⟩ := bG3 z)); go_upto_region 2 with (first | ((with_reducible refine gate_dst (N := 1) rfl ?_); (try (refine gate_guard (by rfl) ?_; dsimp only)); refine be_ (cs := #[.slice M E.length O, .slice P D.length Q, .slice W B.length R]) (t := 31) ?_; intro ab hg w3 hbox hb; have z := aM (hbox); have a3 := gE hg (bP0 HB); have F := gE hg (bP0 HB); replace HB := hS0 HB hb; clear hb hbox hg; obtain ⟨av, aw, ax, ay, az, aA⟩ := bG3 z)))
 (try simp only [Act.put, sA, sB, sC])
 go_cut [20] (fun b6 wc => ∃ (kq : Nat) (af : Bool), b6 = .bool af ∧ Aside0 (tabardref12_Right.j0 kq (D.length : Int) af E D B = some r) ∧ Aside0 (kq ≤ k) ∧ Aside0 (wc.heap[ab]? = some (.cells #[(.slice M E.length O), (.slice P D.length Q), (.slice W B.length R)] 31 (0, 0))) ∧ BA w wc)
 case first =>
  have H := bi.out; clear bi; replace H := Option.bind_eq_some_iff.mp H; obtain ⟨bw, bt, H⟩ := H; have A5 := aM bt; clear bt
  by_cases c6 : bw = true
  ·subst c6
   rw [if_pos rfl] at H; have H' := aM H; clear H; obtain ⟨b7, b8, b9, ca, cb, cc⟩ := bG3 z
   go_wp2_with (first | (go_at_call 35; (with_reducible refine (tabardref12_Frame.calls k _ _ E (D.length : Int) true _ ?s1 V.out A5.out).mono ?_); (case s1 => exact cB U HB); rintro e w8 ⟨rfl, hb⟩; replace z := kB z hb; replace HB := hS1 HB F hb; (try clear hb); obtain ⟨aB, aC, aD, aE, aF, aG⟩ := bG3 z))
   repeat (go_quiet (first | (go_at_call 35; (with_reducible refine (tabardref12_Frame.calls k _ _ E (D.length : Int) true _ ?s1 V.out A5.out).mono ?_); (case s1 => exact cB U HB); rintro e w8 ⟨rfl, hb⟩; replace z := kB z hb; replace HB := hS1 HB F hb; (try clear hb); obtain ⟨aB, aC, aD, aE, aF, aG⟩ := bG3 z)); try go_wp2_with (first | (go_at_call 35; (with_reducible refine (tabardref12_Frame.calls k _ _ E (D.length : Int) true _ ?s1 V.out A5.out).mono ?_); (case s1 => exact cB U HB); rintro e w8 ⟨rfl, hb⟩; replace z := kB z hb; replace HB := hS1 HB F hb; (try clear hb); obtain ⟨aB, aC, aD, aE, aF, aG⟩ := bG3 z)))
   go_meet
   case rel => exact ⟨_, (((B.length : Int) != (D.length : Int))), sI, H', ⟨by first | omega | exact Nat.le_refl _⟩, kQ z, bT1 HB F⟩
  ·replace c6 := Bool.eq_false_iff.mpr c6; subst c6
   rw [if_neg nF] at H; have H' := aM H; clear H; obtain ⟨bD, bE, bF, bG, bH, bI⟩ := bG3 z
   go_wp2_with (first | (go_at_call 35; (with_reducible refine (tabardref12_Frame.calls k _ _ E (D.length : Int) false _ ?s1 V.out A5.out).mono ?_); (case s1 => exact cB U HB); rintro e bu ⟨rfl, hb⟩; replace z := kB z hb; replace HB := hS1 HB F hb; (try clear hb)))
   repeat (go_quiet (first | (go_at_call 35; (with_reducible refine (tabardref12_Frame.calls k _ _ E (D.length : Int) false _ ?s1 V.out A5.out).mono ?_); (case s1 => exact cB U HB); rintro e bu ⟨rfl, hb⟩; replace z := kB z hb; replace HB := hS1 HB F hb; (try clear hb))); try go_wp2_with (first | (go_at_call 35; (with_reducible refine (tabardref12_Frame.calls k _ _ E (D.length : Int) false _ ?s1 V.out A5.out).mono ?_); (case s1 => exact cB U HB); rintro e bu ⟨rfl, hb⟩; replace z := kB z hb; replace HB := hS1 HB F hb; (try clear hb))))
   go_meet
   case rel => exact ⟨_, (true), sI, H', ⟨by first | omega | exact Nat.le_refl _⟩, kQ z, bT1 HB F⟩
 case rest =>
  clear bi
  obtain ⟨kq, af, rfl, HA, HJ1, z, HB⟩ := hcut; cases kq with
  | zero => exact absurd HA.out (by simp [tabardref12_Right.j0])
  | succ bv =>
   have H := HA.out; clear HA; simp only [tabardref12_Right.j0] at H
   by_cases a4 : af = true
   ·subst a4
    rw [if_pos rfl] at H; exact absurd H (by simp)
   ·replace a4 := Bool.eq_false_iff.mpr a4; subst a4
    rw [if_neg nF] at H; have H' := aM H; clear H
    go_wp2
    repeat (go_quiet (fail); try go_wp2)
    go_loopg [4] bv (fun kq v4 w' => ∃ (A : Int), v4 = .int .i64 A ∧ Aside0 (tabardref12_Right.l0 kq (D.length : Int) A E D B = some r) ∧ Aside0 (kq ≤ bv) ∧ Aside0 (w'.heap[ab]? = some (.cells #[(.slice M E.length O), (.slice P D.length Q), (.slice W B.length R)] 31 (0, 0))) ∧ BA w w')
    case atStart => exact ⟨(0), sI, H', ⟨Nat.le_refl _⟩, kQ z, bT1 HB F⟩
    case round =>
     clear H'
     obtain ⟨A, rfl, HA, HK2, z, HB⟩ := hrel; cases gk with
     | zero => exact absurd HA.out (by simp [tabardref12_Right.l0])
     | succ k2 =>
      have H := HA.out; clear HA; simp only [tabardref12_Right.l0] at H
      by_cases ag : A < (D.length : Int)
      ·rw [if_pos ag] at H; have bo := dT ag; clear ag
       by_cases a5 : 0 ≤ A
       ·rw [if_pos a5] at H; have cn := dT a5; clear a5
        by_cases a6 : A < (B.length : Int)
        ·rw [if_pos a6] at H; have co := dT a6; clear a6; replace H := Option.bind_eq_some_iff.mp H; obtain ⟨ar, bj, H⟩ := H; have bk := aM bj; clear bj
         by_cases a7 : ((rd_L3 B A).length : Int) = ar
         ·rw [if_pos a7] at H; obtain ⟨cp, cq⟩ := bq a7; clear a7; have H' := aM H; clear H; obtain ⟨bJ, bK, bL, bM, bN, bO⟩ := bG3 z; have aH : 0 ≤ (A : Int) := oT aO; have aI : A < (B.length : Int) := oT aO; obtain ⟨ac, ce, cf, bx, ah, ai, aj⟩ := at_L3 aa.out A aH aI; cases bx; replace ah := cX HB ah; have bP := aM aj; have bQ := aM ai; clear aj ai; replace aH := eq_true aH; replace aI := eq_true aI
          go_wp2_with (first | (go_at_call 29; (with_reducible refine (tabardref12_Letters.calls k2 (E.length : Int) ar _ bk.out).mono ?_); rintro e w' ⟨rfl, ⟨nd, rfl⟩⟩; (try exact dN)))
          repeat (go_quiet (first | (go_at_call 29; (with_reducible refine (tabardref12_Letters.calls k2 (E.length : Int) ar _ bk.out).mono ?_); rintro e w' ⟨rfl, ⟨nd, rfl⟩⟩; (try exact dN))); try go_wp2_with (first | (go_at_call 29; (with_reducible refine (tabardref12_Letters.calls k2 (E.length : Int) ar _ bk.out).mono ?_); rintro e w' ⟨rfl, ⟨nd, rfl⟩⟩; (try exact dN))))
          go_loopg [5] k2 (fun kq v5 w' => ∃ (G : Int), v5 = .int .i64 G ∧ Aside0 (tabardref12_Right.l1 kq (D.length : Int) A G E D B = some r) ∧ Aside0 (kq ≤ k2) ∧ Aside0 (w'.heap[ab]? = some (.cells #[(.slice M E.length O), (.slice P D.length Q), (.slice (some ac) B.length R)] 31 (0, 0))) ∧ BA w w')
          case atStart => exact ⟨(0), sI, H', ⟨Nat.le_refl _⟩, kQ z, bT1 HB F⟩
          case round =>
           clear H'
           obtain ⟨G, rfl, HA, HK3, z, HB⟩ := hrel; cases gk with
           | zero => exact absurd HA.out (by simp [tabardref12_Right.l1])
           | succ k3 =>
            have H := HA.out; clear HA; simp only [tabardref12_Right.l1] at H
            by_cases a8 : 0 ≤ A
            ·rw [if_pos a8] at H; have cr := dT a8; clear a8
             by_cases a9 : A < (B.length : Int)
             ·rw [if_pos a9] at H; have ct := dT a9; clear a9
              by_cases ak : G < ((rd_L3 B A).length : Int)
              ·rw [if_pos ak] at H; have bp := dT ak; clear ak
               by_cases ba : 0 ≤ G
               ·rw [if_pos ba] at H; have cu := dT ba; clear ba
                by_cases bb : (rd (rd_L3 B A) G) < 0
                ·rw [if_pos bb] at H; exact absurd H (by simp)
                ·rw [if_neg bb] at H; have cv := decide_eq_false bb; clear bb
                 by_cases bc : (rd (rd_L3 B A) G) ≥ (D.length : Int)
                 ·rw [if_pos bc] at H; exact absurd H (by simp)
                 ·rw [if_neg bc] at H; have cw := decide_eq_false bc; clear bc; have H' := aM H; clear H; obtain ⟨bR, bS, bT, bU, bV, bW⟩ := bG3 z; have Y : 0 ≤ (A : Int) := oT aO; have Z : A < (B.length : Int) := oT aO; obtain ⟨au, bl, bm, aJ, I, J, L⟩ := at_L3 aa.out A Y Z; have he_ : ac = au := (by injection aJ); subst he_; replace I := cX HB I; have be := aM L; have bf := aM J; clear L J; replace Y := eq_true Y; replace Z := eq_true Z; have aK : 0 ≤ (A : Int) := oT aO; have aL : A < (B.length : Int) := oT aO; obtain ⟨br, cg, ch, bz, ad, al, am⟩ := at_L3 aa.out A aK aL; have he_ : ac = br := (by injection bz); subst he_; replace ad := cX HB ad; have bg := aM am; have bX := aM al; clear am al; replace aK := eq_true aK; replace aL := eq_true aL; have ea_ := Option.some.inj (I.symm.trans ad)
                  injection ea_ with ea_ en_ ec_
                  subst ea_; subst ec_; clear en_; have aN : 0 ≤ (G : Int) := oT aO; have aP : G < ((rd_L3 B A).length : Int) := oT aO; obtain ⟨cx, bA, an⟩ := Kd.at_int bg.out G aN aP; cases bA; replace an := cX HB an; replace aN := eq_true aN; replace aP := eq_true aP; have aQ : 0 ≤ (A : Int) := oT aO; have aR : A < (B.length : Int) := oT aO; obtain ⟨bs, ci, cj, bB, ae, ao, ap⟩ := at_L3 aa.out A aQ aR; have he_ : ac = bs := (by injection bB); subst he_; replace ae := cX HB ae; have bh := aM ap; have bY := aM ao; clear ap ao; replace aQ := eq_true aQ; replace aR := eq_true aR; have ea_ := Option.some.inj (I.symm.trans ae)
                  injection ea_ with ea_ en_ ec_
                  subst ea_; subst ec_; clear en_; have aS : 0 ≤ (G : Int) := oT aO; have aT : G < ((rd_L3 B A).length : Int) := oT aO; obtain ⟨cy, bC, aq⟩ := Kd.at_int bh.out G aS aT; cases bC; replace aq := cX HB aq; replace aS := eq_true aS; replace aT := eq_true aT
                  go_wp2
                  repeat (go_quiet (fail); try go_wp2)
                  go_roundg k3
                  case measure => have := HJ1.out; have := HK2.out; have := HK3.out; omega
                  case rel => exact ⟨(wrap64 (G + 1)), sI, H', ⟨by have := HJ1.out; have := HK2.out; have := HK3.out; omega⟩, kQ z, bT1 HB F⟩
               ·exact nX ba H
              ·rw [if_neg ak] at H; have bp := decide_eq_false ak; clear ak; have H' := aM H; clear H; obtain ⟨bZ, b0, b1, b2, b3, b4⟩ := bG3 z; have Y : 0 ≤ (A : Int) := oT aO; have Z : A < (B.length : Int) := oT aO; obtain ⟨au, bl, bm, aJ, I, J, L⟩ := at_L3 aa.out A Y Z; have he_ : ac = au := (by injection aJ); subst he_; replace I := cX HB I; have be := aM L; have bf := aM J; clear L J; replace Y := eq_true Y; replace Z := eq_true Z
               go_wp2
               repeat (go_quiet (fail); try go_wp2)
               go_roundg k3
               case measure => have := HJ1.out; have := HK2.out; have := HK3.out; omega
               case rel => exact ⟨(wrap64 (A + 1)), sI, H', ⟨by have := HJ1.out; have := HK2.out; have := HK3.out; omega⟩, kQ z, bT1 HB F⟩
             ·exact nX a9 H
            ·exact nX a8 H
         ·exact nX a7 H
        ·exact nX a6 H
       ·exact nX a5 H
      ·rw [if_neg ag] at H; have bo := decide_eq_false ag; clear ag; obtain rfl := Option.some.inj H
       go_wp2
       repeat (go_quiet (fail); try go_wp2)
       go_ret
       exact ⟨eW, bS1 HB.out F.out⟩

end Go.Proofs.Ythgoonohpfoagaa.X
