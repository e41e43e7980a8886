/- What the functions of this seat compute, and that the program's calls come to just that: written by this session's own program out of the translation; no condition. -/
import Derived.Test.YthgoonohpfoagaaX0
namespace Go.Proofs.Ythgoonohpfoagaa.X
open Go.RowKit Go.Proofs.YthgoonohpfoagaaW.PrintWords Go.Proofs.YthgoonohpfoagaaW.PrintLast Go.Proofs.YthgoonohpfoagaaW.PrintMore
attribute [local go_sem] max2_int min2_int max_two min_two max_three min_three max_four min_four
set_option linter.unusedVariables false
set_option linter.unusedSimpArgs false
set_option maxHeartbeats 8000000
set_option maxRecDepth 100000

/-! ### tabardref04_Read: function 94 -/
mutual
def tabardref04_Read.j2 : Nat → ByteArray → Int → Int → Int → Int → Option (Int × Int × Bool)
 | 0, _, _, _, _, _ => none
 | k + 1, x0, x1, x7, x8, x9 => if (wrap64 ((x0.size : Int) - x1)) < x8 then (some (65533, 1, false)) else (tabardref04_Read.l0 k x0 x1 x7 x8 x9 1)
def tabardref04_Read.l0 : Nat → ByteArray → Int → Int → Int → Int → Int → Option (Int × Int × Bool)
 | 0, _, _, _, _, _, _ => none
 | k + 1, x0, x1, x7, x8, x9, x10 => if x10 < x8 then (if 0 ≤ (wrap64 (x1 + x10)) then (if (wrap64 (x1 + x10)) < (x0.size : Int) then (if (wrap64 (bt x0 (wrap64 (x1 + x10)))) < 128 then (some (65533, 1, false)) else (if (wrap64 (bt x0 (wrap64 (x1 + x10)))) > 191 then (some (65533, 1, false)) else (tabardref04_Read.l0 k x0 x1 (wrap64 ((wrap64 ((wrap64 (x7 * 64)) + (wrap64 (bt x0 (wrap64 (x1 + x10)))))) - 128)) x8 x9 (wrap64 (x10 + 1))))) else (none)) else (none)) else (if x7 < x9 then (some (65533, 1, false)) else (if x7 > 1114111 then (some (65533, 1, false)) else (if x7 ≥ 55296 then (if x7 ≤ 57343 then (some (65533, 1, false)) else (some (x7, x8, true))) else (some (x7, x8, true)))))
def tabardref04_Read.j0 : Nat → ByteArray → Int → Int → Bool → Option (Int × Int × Bool)
 | 0, _, _, _, _ => none
 | k + 1, x0, x1, x7, x20 => if x20 = true then (tabardref04_Read.j2 k x0 x1 (wrap64 (x7 - 192)) 2 128) else (if x7 ≥ 224 then (tabardref04_Read.j1 k x0 x1 x7 (decide (x7 < 240))) else (tabardref04_Read.j1 k x0 x1 x7 false))
def tabardref04_Read.j1 : Nat → ByteArray → Int → Int → Bool → Option (Int × Int × Bool)
 | 0, _, _, _, _ => none
 | k + 1, x0, x1, x7, x29 => if x29 = true then (tabardref04_Read.j2 k x0 x1 (wrap64 (x7 - 224)) 3 2048) else (if x7 ≥ 240 then (if x7 < 245 then (tabardref04_Read.j2 k x0 x1 (wrap64 (x7 - 240)) 4 65536) else (some (65533, 1, false))) else (some (65533, 1, false)))
end
def tabardref04_Read.f (k : Nat) (a0 : ByteArray) (a1 : Int) : Option (Int × Int × Bool) := if 0 ≤ a1 then (if a1 < (a0.size : Int) then (if (wrap64 (bt a0 a1)) < 128 then (some (wrap64 (bt a0 a1), 1, true)) else (if (wrap64 (bt a0 a1)) ≥ 194 then (tabardref04_Read.j0 k a0 a1 (wrap64 (bt a0 a1)) (decide ((wrap64 (bt a0 a1)) < 224))) else (tabardref04_Read.j0 k a0 a1 (wrap64 (bt a0 a1)) false))) else (none)) else (none)
theorem tabardref04_Read.mono_l : ∀ k, (∀ y0 y1 y2 y3 y4, LeO (tabardref04_Read.j2 k y0 y1 y2 y3 y4) (tabardref04_Read.j2 (k + 1) y0 y1 y2 y3 y4)) ∧ (∀ y0 y1 y2 y3 y4 y5, LeO (tabardref04_Read.l0 k y0 y1 y2 y3 y4 y5) (tabardref04_Read.l0 (k + 1) y0 y1 y2 y3 y4 y5)) ∧ (∀ y0 y1 y2 y3, LeO (tabardref04_Read.j0 k y0 y1 y2 y3) (tabardref04_Read.j0 (k + 1) y0 y1 y2 y3)) ∧ (∀ y0 y1 y2 y3, LeO (tabardref04_Read.j1 k y0 y1 y2 y3) (tabardref04_Read.j1 (k + 1) y0 y1 y2 y3))
 | 0 => ⟨fun _ _ _ _ _ r h => by simp [tabardref04_Read.j2] at h, fun _ _ _ _ _ _ r h => by simp [tabardref04_Read.l0] at h, fun _ _ _ _ r h => by simp [tabardref04_Read.j0] at h, fun _ _ _ _ r h => by simp [tabardref04_Read.j1] at h⟩
 | k + 1 => by
  obtain ⟨ih0, ih1, ih2, ih3⟩ := tabardref04_Read.mono_l k; refine ⟨?_, ?_, ?_, ?_⟩
  ·intro y0 y1 y2 y3 y4
   unfold tabardref04_Read.j2
   repeat' first | (with_reducible first | exact ih0 _ _ _ _ _ | exact ih1 _ _ _ _ _ _ | exact ih2 _ _ _ _ | exact ih3 _ _ _ _ | exact lA | apply lI | refine lB ?_ fun _ => ?_) | exact lN _ | apply lI | refine lB ?_ fun _ => ?_
  ·intro y0 y1 y2 y3 y4 y5
   unfold tabardref04_Read.l0
   repeat' first | (with_reducible first | exact ih0 _ _ _ _ _ | exact ih1 _ _ _ _ _ _ | exact ih2 _ _ _ _ | exact ih3 _ _ _ _ | exact lA | apply lI | refine lB ?_ fun _ => ?_) | exact lN _ | apply lI | refine lB ?_ fun _ => ?_
  ·intro y0 y1 y2 y3
   unfold tabardref04_Read.j0
   repeat' first | (with_reducible first | exact ih0 _ _ _ _ _ | exact ih1 _ _ _ _ _ _ | exact ih2 _ _ _ _ | exact ih3 _ _ _ _ | exact lA | apply lI | refine lB ?_ fun _ => ?_) | exact lN _ | apply lI | refine lB ?_ fun _ => ?_
  ·intro y0 y1 y2 y3
   unfold tabardref04_Read.j1
   repeat' first | (with_reducible first | exact ih0 _ _ _ _ _ | exact ih1 _ _ _ _ _ _ | exact ih2 _ _ _ _ | exact ih3 _ _ _ _ | exact lA | apply lI | refine lB ?_ fun _ => ?_) | exact lN _ | apply lI | refine lB ?_ fun _ => ?_
theorem tabardref04_Read.mono : ∀ a0 a1 k, LeO (tabardref04_Read.f k a0 a1) (tabardref04_Read.f (k + 1) a0 a1) := by
 intro a0 a1 k; obtain ⟨ih0, ih1, ih2, ih3⟩ := tabardref04_Read.mono_l k
 unfold tabardref04_Read.f
 repeat' first | (with_reducible first | exact ih0 _ _ _ _ _ | exact ih1 _ _ _ _ _ _ | exact ih2 _ _ _ _ | exact ih3 _ _ _ _ | exact lA | apply lI | refine lB ?_ fun _ => ?_) | exact lN _ | apply lI | refine lB ?_ fun _ => ?_
theorem tabardref04_Read.calls (k : Nat) (z : ByteArray) (B : Int) (r1 : Int) (r2 : Int) (r3 : Bool) (w : World) (h : tabardref04_Read.f k z B = some (r1, r2, r3)) :
  Calls Try.prog 94 #[.string z, .int .i64 B] w fun e w' => e = .returned (.tuple #[.int .i64 r1, .int .i64 r2, .bool r3]) ∧ Drawn0 w w' := by
 rw [tabardref04_Read.f] at h; have H := h; clear h
 by_cases c3 : 0 ≤ B
 ·rw [if_pos c3] at H; have aS := dT c3; clear c3
  by_cases c4 : B < (z.size : Int)
  ·rw [if_pos c4] at H; have aT := dT c4; clear c4; have ap := aM H; clear H; have p5 : 0 ≤ (B : Int) := oT aO; have q5 : B < (z.size : Int) := oT aO; have aX := bt_at z B; replace p5 := eq_true p5; replace q5 := eq_true q5
   go_enter Try.func94, Try.ntmps94
   go_upto_block 0 with (fail)
   go_cut [7, 8, 9] (fun v7 v8 v9 wc => ∃ (kq : Nat) (ae : Int) (I : Int) (N : Int), v7 = .int .i64 ae ∧ v8 = .int .i64 I ∧ v9 = .int .i64 N ∧ Aside0 (tabardref04_Read.j2 kq z B ae I N = some (r1, r2, r3)) ∧ Aside0 (kq ≤ k) ∧ Drawn0 w wc)
   case first =>
    have H := ap.out; clear ap
    by_cases c7 : (wrap64 (bt z B)) < 128
    ·rw [if_pos c7] at H; have O := dT c7; clear c7
     (first | rw [O] | (simp only [i64_w, i32_w]; rw [O]) | skip)
     simp only [Option.some.injEq, Prod.mk.injEq] at H; obtain ⟨rfl, rfl, rfl⟩ := H
     go_wp2
     go_ret3
     exact ⟨by first | rfl | (simp; done) | (simp [*]; done), by repeat (first | exact Drawn0.refl _ | apply Drawn0.step)⟩
    ·rw [if_neg c7] at H; have O := decide_eq_false c7; clear c7
     (first | rw [O] | (simp only [i64_w, i32_w]; rw [O]) | skip)
     have aq := aM H; clear H
     go_upto_region 6 with (fail)
     go_cut [20] (fun aK wc => ∃ (kq : Nat) (M : Bool), aK = .bool M ∧ Aside0 (tabardref04_Read.j0 kq z B (wrap64 (bt z B)) M = some (r1, r2, r3)) ∧ Aside0 (kq ≤ k) ∧ Drawn0 w wc)
     case first =>
      have H := aq.out; clear aq
      by_cases c9 : (wrap64 (bt z B)) ≥ 194
      ·rw [if_pos c9] at H; have P := dT c9; clear c9
       (first | rw [P] | (simp only [i64_w, i32_w]; rw [P]) | skip)
       have H' := aM H; clear H
       go_wp2
       go_meet
       case rel => exact ⟨_, (decide ((wrap64 (bt z B)) < 224)), sI, H', ⟨by first | omega | exact Nat.le_refl _⟩, by repeat (first | exact Drawn0.refl _ | apply Drawn0.step)⟩
      ·rw [if_neg c9] at H; have P := decide_eq_false c9; clear c9
       (first | rw [P] | (simp only [i64_w, i32_w]; rw [P]) | skip)
       have H' := aM H; clear H
       go_wp2
       go_meet
       case rel => exact ⟨_, (false), sI, H', ⟨by first | omega | exact Nat.le_refl _⟩, by repeat (first | exact Drawn0.refl _ | apply Drawn0.step)⟩
     case rest =>
      clear aq
      obtain ⟨kq, M, rfl, HA, HJ7, ⟨mc7, rfl⟩⟩ := hcut; cases kq with
      | zero => exact absurd HA.out (by simp [tabardref04_Read.j0])
      | succ aL =>
       have H := HA.out; clear HA; simp only [tabardref04_Read.j0] at H
       by_cases ag : M = true
       ·subst ag
        rw [if_pos rfl] at H; have H' := aM H; clear H
        go_wp2
        go_meet
        case rel => exact ⟨_, (wrap64 ((wrap64 (bt z B)) - 192)), (2), (128), sI, sI, sI, H', ⟨by have := HJ7.out; first | omega | exact Nat.le_refl _⟩, by repeat (first | exact Drawn0.refl _ | apply Drawn0.step)⟩
       ·replace ag := Bool.eq_false_iff.mpr ag; subst ag
        rw [if_neg nF] at H; have af := aM H; clear H
        go_upto_region 8 with (fail)
        go_cut [29] (fun aN wc => ∃ (kq : Nat) (F : Bool), aN = .bool F ∧ Aside0 (tabardref04_Read.j1 kq z B (wrap64 (bt z B)) F = some (r1, r2, r3)) ∧ Aside0 (kq ≤ aL) ∧ Drawn0 w wc)
        case first =>
         have H := af.out; clear af
         by_cases Q : (wrap64 (bt z B)) ≥ 224
         ·rw [if_pos Q] at H; have G := dT Q; clear Q
          (first | rw [G] | (simp only [i64_w, i32_w]; rw [G]) | skip)
          have H' := aM H; clear H
          go_wp2
          go_meet
          case rel => exact ⟨_, (decide ((wrap64 (bt z B)) < 240)), sI, H', ⟨by have := HJ7.out; first | omega | exact Nat.le_refl _⟩, by repeat (first | exact Drawn0.refl _ | apply Drawn0.step)⟩
         ·rw [if_neg Q] at H; have G := decide_eq_false Q; clear Q
          (first | rw [G] | (simp only [i64_w, i32_w]; rw [G]) | skip)
          have H' := aM H; clear H
          go_wp2
          go_meet
          case rel => exact ⟨_, (false), sI, H', ⟨by have := HJ7.out; first | omega | exact Nat.le_refl _⟩, by repeat (first | exact Drawn0.refl _ | apply Drawn0.step)⟩
        case rest =>
         clear af
         obtain ⟨kq, F, rfl, HA, HJ10, ⟨mc10, rfl⟩⟩ := hcut; cases kq with
         | zero => exact absurd HA.out (by simp [tabardref04_Read.j1])
         | succ aW =>
          have H := HA.out; clear HA; simp only [tabardref04_Read.j1] at H
          by_cases ah : F = true
          ·subst ah
           rw [if_pos rfl] at H; have H' := aM H; clear H
           go_wp2
           go_meet
           case rel => exact ⟨_, (wrap64 ((wrap64 (bt z B)) - 224)), (3), (2048), sI, sI, sI, H', ⟨by have := HJ7.out; have := HJ10.out; first | omega | exact Nat.le_refl _⟩, by repeat (first | exact Drawn0.refl _ | apply Drawn0.step)⟩
          ·replace ah := Bool.eq_false_iff.mpr ah; subst ah
           rw [if_neg nF] at H
           by_cases R : (wrap64 (bt z B)) ≥ 240
           ·rw [if_pos R] at H; have aw := dT R; clear R
            by_cases U : (wrap64 (bt z B)) < 245
            ·rw [if_pos U] at H; have ax := dT U; clear U; have H' := aM H; clear H
             go_wp2
             go_meet
             case rel => exact ⟨_, (wrap64 ((wrap64 (bt z B)) - 240)), (4), (65536), sI, sI, sI, H', ⟨by have := HJ7.out; have := HJ10.out; first | omega | exact Nat.le_refl _⟩, by repeat (first | exact Drawn0.refl _ | apply Drawn0.step)⟩
            ·rw [if_neg U] at H; have ax := decide_eq_false U; clear U; simp only [Option.some.injEq, Prod.mk.injEq] at H; obtain ⟨rfl, rfl, rfl⟩ := H
             go_wp2
             go_ret3
             exact ⟨by first | rfl | (simp; done) | (simp [*]; done), by repeat (first | exact Drawn0.refl _ | apply Drawn0.step)⟩
           ·rw [if_neg R] at H; have aw := decide_eq_false R; clear R; simp only [Option.some.injEq, Prod.mk.injEq] at H; obtain ⟨rfl, rfl, rfl⟩ := H
            go_wp2
            go_ret3
            exact ⟨by first | rfl | (simp; done) | (simp [*]; done), by repeat (first | exact Drawn0.refl _ | apply Drawn0.step)⟩
   case rest =>
    clear ap
    obtain ⟨kq, ae, I, N, rfl, rfl, rfl, HA, HJ5, ⟨mc5, rfl⟩⟩ := hcut; cases kq with
    | zero => exact absurd HA.out (by simp [tabardref04_Read.j2])
    | succ aG =>
     have H := HA.out; clear HA; simp only [tabardref04_Read.j2] at H
     by_cases V : (wrap64 ((z.size : Int) - B)) < I
     ·rw [if_pos V] at H; have ay := dT V; clear V; simp only [Option.some.injEq, Prod.mk.injEq] at H; obtain ⟨rfl, rfl, rfl⟩ := H
      go_wp2
      go_ret3
      exact ⟨by first | rfl | (simp; done) | (simp [*]; done), by repeat (first | exact Drawn0.refl _ | apply Drawn0.step)⟩
     ·rw [if_neg V] at H; have ay := decide_eq_false V; clear V; have H' := aM H; clear H
      go_wp2
      go_loopg [7, 10] aG (fun kq v7 aP w' => ∃ (D : Int) (C : Int), v7 = .int .i64 D ∧ aP = .int .i64 C ∧ Aside0 (tabardref04_Read.l0 kq z B D I N C = some (r1, r2, r3)) ∧ Aside0 (kq ≤ aG) ∧ Drawn0 w w')
      case atStart => exact ⟨(ae), (1), sI, sI, H', ⟨Nat.le_refl _⟩, by repeat (first | exact Drawn0.refl _ | apply Drawn0.step)⟩
      case round =>
       clear H'
       obtain ⟨D, C, rfl, rfl, HA, HK2, ⟨m2, rfl⟩⟩ := hrel; cases gk with
       | zero => exact absurd HA.out (by simp [tabardref04_Read.l0])
       | succ k2 =>
        have H := HA.out; clear HA; simp only [tabardref04_Read.l0] at H
        by_cases W : C < I
        ·rw [if_pos W] at H; have az := dT W; clear W; obtain ⟨A, E⟩ : ∃ j_ : Int, (wrap64 (B + C)) = j_ := ⟨_, rfl⟩
         first | rw [E] at H | simp only [E] at H
         have hji18w : (IntKind.i64.wrap (B + C)) = A := (i64_w _).trans E
         by_cases ai : 0 ≤ (A)
         ·rw [if_pos ai] at H; have aQ := dT ai; clear ai
          by_cases aj : (A) < (z.size : Int)
          ·rw [if_pos aj] at H; have aR := dT aj; clear aj
           by_cases Y : (wrap64 (bt z (A))) < 128
           ·rw [if_pos Y] at H; have aA := dT Y; clear Y; simp only [Option.some.injEq, Prod.mk.injEq] at H; obtain ⟨rfl, rfl, rfl⟩ := H; have J : 0 ≤ ((A) : Int) := oT aO; have L : (A) < (z.size : Int) := oT aO; have ar := bt_at z (A); replace J := eq_true J; replace L := eq_true L
            go_wp2
            go_ret3
            exact ⟨by first | rfl | (simp; done) | (simp only [← E] <;> (first | rfl | simp)) | (simp [*]; done), by repeat (first | exact Drawn0.refl _ | apply Drawn0.step)⟩
           ·rw [if_neg Y] at H; have aA := decide_eq_false Y; clear Y
            by_cases Z : (wrap64 (bt z (A))) > 191
            ·rw [if_pos Z] at H; have aB := dT Z; clear Z; simp only [Option.some.injEq, Prod.mk.injEq] at H; obtain ⟨rfl, rfl, rfl⟩ := H; have J : 0 ≤ ((A) : Int) := oT aO; have L : (A) < (z.size : Int) := oT aO; have ar := bt_at z (A); replace J := eq_true J; replace L := eq_true L
             go_wp2
             go_ret3
             exact ⟨by first | rfl | (simp; done) | (simp only [← E] <;> (first | rfl | simp)) | (simp [*]; done), by repeat (first | exact Drawn0.refl _ | apply Drawn0.step)⟩
            ·rw [if_neg Z] at H; have aB := decide_eq_false Z; clear Z; have H' := aM H; clear H; have J : 0 ≤ ((A) : Int) := oT aO; have L : (A) < (z.size : Int) := oT aO; have ar := bt_at z (A); replace J := eq_true J; replace L := eq_true L
             go_wp2
             go_roundg k2
             case measure => have := HJ5.out; have := HK2.out; omega
             case rel => exact ⟨(wrap64 ((wrap64 ((wrap64 (D * 64)) + (wrap64 (bt z (A))))) - 128)), (wrap64 (C + 1)), (by first | rfl | (simp; done) | (simp only [← E] <;> (first | rfl | simp)) | (simp [*]; done)), sI, H', ⟨by have := HJ5.out; have := HK2.out; omega⟩, by repeat (first | exact Drawn0.refl _ | apply Drawn0.step)⟩
          ·exact nX aj H
         ·exact nX ai H
        ·rw [if_neg W] at H; have az := decide_eq_false W; clear W
         by_cases aa : D < N
         ·rw [if_pos aa] at H; have aC := dT aa; clear aa; simp only [Option.some.injEq, Prod.mk.injEq] at H; obtain ⟨rfl, rfl, rfl⟩ := H
          go_wp2
          go_ret3
          exact ⟨by first | rfl | (simp; done) | (simp [*]; done), by repeat (first | exact Drawn0.refl _ | apply Drawn0.step)⟩
         ·rw [if_neg aa] at H; have aC := decide_eq_false aa; clear aa
          by_cases ab : D > 1114111
          ·rw [if_pos ab] at H; have aD := dT ab; clear ab; simp only [Option.some.injEq, Prod.mk.injEq] at H; obtain ⟨rfl, rfl, rfl⟩ := H
           go_wp2
           go_ret3
           exact ⟨by first | rfl | (simp; done) | (simp [*]; done), by repeat (first | exact Drawn0.refl _ | apply Drawn0.step)⟩
          ·rw [if_neg ab] at H; have aD := decide_eq_false ab; clear ab
           by_cases ac : D ≥ 55296
           ·rw [if_pos ac] at H; have aE := dT ac; clear ac
            by_cases ad : D ≤ 57343
            ·rw [if_pos ad] at H; have aF := dT ad; clear ad; simp only [Option.some.injEq, Prod.mk.injEq] at H; obtain ⟨rfl, rfl, rfl⟩ := H
             go_wp2
             go_ret3
             exact ⟨by first | rfl | (simp; done) | (simp [*]; done), by repeat (first | exact Drawn0.refl _ | apply Drawn0.step)⟩
            ·rw [if_neg ad] at H; have aF := decide_eq_false ad; clear ad; simp only [Option.some.injEq, Prod.mk.injEq] at H; obtain ⟨rfl, rfl, rfl⟩ := H
             go_wp2
             go_ret3
             exact ⟨by first | rfl | (simp; done) | (simp [*]; done), by repeat (first | exact Drawn0.refl _ | apply Drawn0.step)⟩
           ·rw [if_neg ac] at H; have aE := decide_eq_false ac; clear ac; simp only [Option.some.injEq, Prod.mk.injEq] at H; obtain ⟨rfl, rfl, rfl⟩ := H
            go_wp2
            go_ret3
            exact ⟨by first | rfl | (simp; done) | (simp [*]; done), by repeat (first | exact Drawn0.refl _ | apply Drawn0.step)⟩
  ·exact nX c4 H
 ·exact nX c3 H

end Go.Proofs.Ythgoonohpfoagaa.X
