/- Functions of the seat, printed, and that the program's calls come to them; no condition. -/
import Derived.Test.YthgoonohpfoagaaX0
namespace Go.Proofs.Ythgoonohpfoagaa.X
open Go.RowKit Go.Proofs.YthgoonohpfoagaaW.PrintWords Go.Proofs.YthgoonohpfoagaaW.PrintLast Go.Proofs.YthgoonohpfoagaaW.PrintMore
attribute [local go_sem] max2_int min2_int max_two min_two max_three min_three max_four min_four
set_option linter.unusedVariables false
set_option linter.unusedSimpArgs false
set_option maxHeartbeats 8000000
set_option maxRecDepth 100000

def Fm.l0 : Nat → Int → Int → Int → Option (Int)
 | 0, _, _, _ => none
 | k + 1, x0, x3, x4 => if x4 < x0 then (Fm.l0 k x0 (wrap64 (x3 * 2)) (wrap64 (x4 + 1))) else (some x3)
def Fm.f (k : Nat) (a0 : Int) : Option (Int) := Fm.l0 k a0 1 0
theorem Fm.mono_l : ∀ k, (∀ y0 y1 y2, LeO (Fm.l0 k y0 y1 y2) (Fm.l0 (k + 1) y0 y1 y2))
 | 0 => fun _ _ _ r h => by simp [Fm.l0] at h
 | k + 1 => by
  have ih0 := Fm.mono_l k
  ·intro y0 y1 y2
   unfold Fm.l0
   repeat' first | (with_reducible first | exact ih0 _ _ _ | exact lA | apply lI | refine lB ?_ fun _ => ?_) | exact lN _ | apply lI | refine lB ?_ fun _ => ?_
theorem Fm.mono : ∀ a0 k, LeO (Fm.f k a0) (Fm.f (k + 1) a0) := by
 intro a0 k; have ih0 := Fm.mono_l k
 unfold Fm.f
 repeat' first | (with_reducible first | exact ih0 _ _ _ | exact lA | apply lI | refine lB ?_ fun _ => ?_) | exact lN _ | apply lI | refine lB ?_ fun _ => ?_
theorem Fm.calls (k : Nat) (C : Int) (r : Int) (w : World) (h : Fm.f k C = some r) :
  Calls Try.prog 29 #[.int .i64 C] w fun e w' => e = .returned (.int .i64 r) ∧ Drawn0 w w' := by
 rw [Fm.f] at h; have H := h; clear h; have G := aM H; clear H
 go_enter Try.func29, Try.ntmps29
 go_wp2
 go_loopg [3, 4] k (fun kq E F w' => ∃ (A : Int) (z : Int), E = .int .i64 A ∧ F = .int .i64 z ∧ Aside0 (Fm.l0 kq C A z = some r) ∧ Aside0 (kq ≤ k) ∧ Drawn0 w w')
 case atStart => exact ⟨(1), (0), sI, sI, G, ⟨Nat.le_refl _⟩, dRw⟩
 case round =>
  clear G; obtain ⟨A, z, rfl, rfl, J, I, ⟨m1, rfl⟩⟩ := hrel; cases gk with
  | zero => exact absurd J.out (by simp [Fm.l0])
  | succ k1 =>
   have H := J.out; clear J; simp only [Fm.l0] at H
   apply iB H <;> clear H <;> intro B H
   ·have D := dT B; clear B; have G := aM H; clear H
    go_wp2
    go_roundg k1
    case measure => have := I.out; omega
    case rel => exact ⟨(wrap64 (A * 2)), (wrap64 (z + 1)), sI, sI, G, ⟨by have := I.out; omega⟩, dRw⟩
   ·have D := decide_eq_false B; clear B; obtain rfl := Qx H
    go_wp2
    go_ret
    exact ⟨eVl, dRw⟩
mutual
def Fk.j2 : Nat → ByteArray → Int → Int → Int → Int → Option (Int × Int × Bool)
 | 0, _, _, _, _, _ => none
 | k + 1, x0, x1, x7, x8, x9 => if (wrap64 ((x0.size : Int) - x1)) < x8 then (some (65533, 1, false)) else (Fk.l0 k x0 x1 x7 x8 x9 1)
def Fk.l0 : Nat → ByteArray → Int → Int → Int → Int → Int → Option (Int × Int × Bool)
 | 0, _, _, _, _, _, _ => none
 | k + 1, x0, x1, x7, x8, x9, x10 => if x10 < x8 then (if 0 ≤ (wrap64 (x1 + x10)) then (if (wrap64 (x1 + x10)) < (x0.size : Int) then (if (wrap64 (bt x0 (wrap64 (x1 + x10)))) < 128 then (some (65533, 1, false)) else (if (wrap64 (bt x0 (wrap64 (x1 + x10)))) > 191 then (some (65533, 1, false)) else (Fk.l0 k x0 x1 (wrap64 ((wrap64 ((wrap64 (x7 * 64)) + (wrap64 (bt x0 (wrap64 (x1 + x10)))))) - 128)) x8 x9 (wrap64 (x10 + 1))))) else (none)) else (none)) else (if x7 < x9 then (some (65533, 1, false)) else (if x7 > 1114111 then (some (65533, 1, false)) else (if x7 ≥ 55296 then (if x7 ≤ 57343 then (some (65533, 1, false)) else (some (x7, x8, true))) else (some (x7, x8, true)))))
def Fk.j0 : Nat → ByteArray → Int → Int → Bool → Option (Int × Int × Bool)
 | 0, _, _, _, _ => none
 | k + 1, x0, x1, x7, x20 => if x20 = true then (Fk.j2 k x0 x1 (wrap64 (x7 - 192)) 2 128) else (if x7 ≥ 224 then (Fk.j1 k x0 x1 x7 (decide (x7 < 240))) else (Fk.j1 k x0 x1 x7 false))
def Fk.j1 : Nat → ByteArray → Int → Int → Bool → Option (Int × Int × Bool)
 | 0, _, _, _, _ => none
 | k + 1, x0, x1, x7, x29 => if x29 = true then (Fk.j2 k x0 x1 (wrap64 (x7 - 224)) 3 2048) else (if x7 ≥ 240 then (if x7 < 245 then (Fk.j2 k x0 x1 (wrap64 (x7 - 240)) 4 65536) else (some (65533, 1, false))) else (some (65533, 1, false)))
end
def Fk.f (k : Nat) (a0 : ByteArray) (a1 : Int) : Option (Int × Int × Bool) := if 0 ≤ a1 then (if a1 < (a0.size : Int) then (if (wrap64 (bt a0 a1)) < 128 then (some (wrap64 (bt a0 a1), 1, true)) else (if (wrap64 (bt a0 a1)) ≥ 194 then (Fk.j0 k a0 a1 (wrap64 (bt a0 a1)) (decide ((wrap64 (bt a0 a1)) < 224))) else (Fk.j0 k a0 a1 (wrap64 (bt a0 a1)) false))) else (none)) else (none)
theorem Fk.mono_l : ∀ k, (∀ y0 y1 y2 y3 y4, LeO (Fk.j2 k y0 y1 y2 y3 y4) (Fk.j2 (k + 1) y0 y1 y2 y3 y4)) ∧ (∀ y0 y1 y2 y3 y4 y5, LeO (Fk.l0 k y0 y1 y2 y3 y4 y5) (Fk.l0 (k + 1) y0 y1 y2 y3 y4 y5)) ∧ (∀ y0 y1 y2 y3, LeO (Fk.j0 k y0 y1 y2 y3) (Fk.j0 (k + 1) y0 y1 y2 y3)) ∧ (∀ y0 y1 y2 y3, LeO (Fk.j1 k y0 y1 y2 y3) (Fk.j1 (k + 1) y0 y1 y2 y3))
 | 0 => ⟨fun _ _ _ _ _ r h => by simp [Fk.j2] at h, fun _ _ _ _ _ _ r h => by simp [Fk.l0] at h, fun _ _ _ _ r h => by simp [Fk.j0] at h, fun _ _ _ _ r h => by simp [Fk.j1] at h⟩
 | k + 1 => by
  obtain ⟨ih0, ih1, ih2, ih3⟩ := Fk.mono_l k; refine ⟨?_, ?_, ?_, ?_⟩
  ·intro y0 y1 y2 y3 y4
   unfold Fk.j2
   repeat' first | (with_reducible first | exact ih0 _ _ _ _ _ | exact ih1 _ _ _ _ _ _ | exact ih2 _ _ _ _ | exact ih3 _ _ _ _ | exact lA | apply lI | refine lB ?_ fun _ => ?_) | exact lN _ | apply lI | refine lB ?_ fun _ => ?_
  ·intro y0 y1 y2 y3 y4 y5
   unfold Fk.l0
   repeat' first | (with_reducible first | exact ih0 _ _ _ _ _ | exact ih1 _ _ _ _ _ _ | exact ih2 _ _ _ _ | exact ih3 _ _ _ _ | exact lA | apply lI | refine lB ?_ fun _ => ?_) | exact lN _ | apply lI | refine lB ?_ fun _ => ?_
  ·intro y0 y1 y2 y3
   unfold Fk.j0
   repeat' first | (with_reducible first | exact ih0 _ _ _ _ _ | exact ih1 _ _ _ _ _ _ | exact ih2 _ _ _ _ | exact ih3 _ _ _ _ | exact lA | apply lI | refine lB ?_ fun _ => ?_) | exact lN _ | apply lI | refine lB ?_ fun _ => ?_
  ·intro y0 y1 y2 y3
   unfold Fk.j1
   repeat' first | (with_reducible first | exact ih0 _ _ _ _ _ | exact ih1 _ _ _ _ _ _ | exact ih2 _ _ _ _ | exact ih3 _ _ _ _ | exact lA | apply lI | refine lB ?_ fun _ => ?_) | exact lN _ | apply lI | refine lB ?_ fun _ => ?_
theorem Fk.mono : ∀ a0 a1 k, LeO (Fk.f k a0 a1) (Fk.f (k + 1) a0 a1) := by
 intro a0 a1 k; obtain ⟨ih0, ih1, ih2, ih3⟩ := Fk.mono_l k
 unfold Fk.f
 repeat' first | (with_reducible first | exact ih0 _ _ _ _ _ | exact ih1 _ _ _ _ _ _ | exact ih2 _ _ _ _ | exact ih3 _ _ _ _ | exact lA | apply lI | refine lB ?_ fun _ => ?_) | exact lN _ | apply lI | refine lB ?_ fun _ => ?_
theorem Fk.calls (k : Nat) (z : ByteArray) (B : Int) (r1 : Int) (r2 : Int) (r3 : Bool) (w : World) (h : Fk.f k z B = some (r1, r2, r3)) :
  Calls Try.prog 94 #[.string z, .int .i64 B] w fun e w' => e = .returned (.tuple #[.int .i64 r1, .int .i64 r2, .bool r3]) ∧ Drawn0 w w' := by
 rw [Fk.f] at h; have H := h; clear h
 apply iN H; clear H; intro c3 H; have aS := dT c3; clear c3
 apply iN H; clear H; intro c4 H; have aT := dT c4; clear c4; have ap := aM H; clear H; have p5 : 0 ≤ (B : Int) := oT aO; have q5 : B < (z.size : Int) := oT aO; have aX := bt_at z B; replace p5 := eq_true p5; replace q5 := eq_true q5
 go_enter Try.func94, Try.ntmps94
 go_upto_block 0 with (fail)
 go_cut [7, 8, 9] (fun v7 v8 v9 wc => ∃ (kq : Nat) (ae : Int) (I : Int) (N : Int), v7 = .int .i64 ae ∧ v8 = .int .i64 I ∧ v9 = .int .i64 N ∧ Aside0 (Fk.j2 kq z B ae I N = some (r1, r2, r3)) ∧ Aside0 (kq ≤ k) ∧ Drawn0 w wc)
 case first =>
  have H := ap.out; clear ap
  apply iB H <;> clear H <;> intro c7 H
  ·have O := dT c7; clear c7
   (first | rw [O] | (simp only [i64_w, i32_w]; rw [O]) | skip)
   obtain ⟨rfl, rfl, rfl⟩ := pE3 H
   go_wp2
   go_ret3
   exact ⟨eVl, dRw⟩
  ·have O := decide_eq_false c7; clear c7
   (first | rw [O] | (simp only [i64_w, i32_w]; rw [O]) | skip)
   have aq := aM H; clear H
   go_upto_region 6 with (fail)
   go_cut [20] (fun aK wc => ∃ (kq : Nat) (M : Bool), aK = .bool M ∧ Aside0 (Fk.j0 kq z B (wrap64 (bt z B)) M = some (r1, r2, r3)) ∧ Aside0 (kq ≤ k) ∧ Drawn0 w wc)
   case first =>
    have H := aq.out; clear aq
    apply iB H <;> clear H <;> intro c9 H
    ·have P := dT c9; clear c9
     (first | rw [P] | (simp only [i64_w, i32_w]; rw [P]) | skip)
     have H' := aM H; clear H
     go_wp2
     go_meet
     case rel => exact ⟨_, (decide ((wrap64 (bt z B)) < 224)), sI, H', lE, dRw⟩
    ·have P := decide_eq_false c9; clear c9
     (first | rw [P] | (simp only [i64_w, i32_w]; rw [P]) | skip)
     have H' := aM H; clear H
     go_wp2
     go_meet
     case rel => exact ⟨_, (false), sI, H', lE, dRw⟩
   case rest =>
    clear aq
    obtain ⟨kq, M, rfl, HA, HJ7, ⟨mc7, rfl⟩⟩ := hcut; cases kq with
    | zero => exact absurd HA.out (by simp [Fk.j0])
    | succ aL =>
     have H := HA.out; clear HA; simp only [Fk.j0] at H
     by_cases ag : M = true
     ·subst ag
      rw [if_pos rfl] at H; have H' := aM H; clear H
      go_wp2
      go_meet
      case rel => exact ⟨_, (wrap64 ((wrap64 (bt z B)) - 192)), (2), (128), sI, sI, sI, H', ⟨by have := HJ7.out; first | omega | exact Nat.le_refl _⟩, dRw⟩
     ·replace ag := Qc ag; subst ag
      rw [if_neg nF] at H; have af := aM H; clear H
      go_upto_region 8 with (fail)
      go_cut [29] (fun aN wc => ∃ (kq : Nat) (F : Bool), aN = .bool F ∧ Aside0 (Fk.j1 kq z B (wrap64 (bt z B)) F = some (r1, r2, r3)) ∧ Aside0 (kq ≤ aL) ∧ Drawn0 w wc)
      case first =>
       have H := af.out; clear af
       apply iB H <;> clear H <;> intro Q H
       ·have G := dT Q; clear Q
        (first | rw [G] | (simp only [i64_w, i32_w]; rw [G]) | skip)
        have H' := aM H; clear H
        go_wp2
        go_meet
        case rel => exact ⟨_, (decide ((wrap64 (bt z B)) < 240)), sI, H', ⟨by have := HJ7.out; first | omega | exact Nat.le_refl _⟩, dRw⟩
       ·have G := decide_eq_false Q; clear Q
        (first | rw [G] | (simp only [i64_w, i32_w]; rw [G]) | skip)
        have H' := aM H; clear H
        go_wp2
        go_meet
        case rel => exact ⟨_, (false), sI, H', ⟨by have := HJ7.out; first | omega | exact Nat.le_refl _⟩, dRw⟩
      case rest =>
       clear af
       obtain ⟨kq, F, rfl, HA, HJ10, ⟨mc10, rfl⟩⟩ := hcut; cases kq with
       | zero => exact absurd HA.out (by simp [Fk.j1])
       | succ aW =>
        have H := HA.out; clear HA; simp only [Fk.j1] at H
        by_cases ah : F = true
        ·subst ah
         rw [if_pos rfl] at H; have H' := aM H; clear H
         go_wp2
         go_meet
         case rel => exact ⟨_, (wrap64 ((wrap64 (bt z B)) - 224)), (3), (2048), sI, sI, sI, H', ⟨by have := HJ7.out; have := HJ10.out; first | omega | exact Nat.le_refl _⟩, dRw⟩
        ·replace ah := Qc ah; subst ah
         rw [if_neg nF] at H
         apply iB H <;> clear H <;> intro R H
         ·have aw := dT R; clear R
          apply iB H <;> clear H <;> intro U H
          ·have ax := dT U; clear U; have H' := aM H; clear H
           go_wp2
           go_meet
           case rel => exact ⟨_, (wrap64 ((wrap64 (bt z B)) - 240)), (4), (65536), sI, sI, sI, H', ⟨by have := HJ7.out; have := HJ10.out; first | omega | exact Nat.le_refl _⟩, dRw⟩
          ·have ax := decide_eq_false U; clear U; obtain ⟨rfl, rfl, rfl⟩ := pE3 H
           go_wp2
           go_ret3
           exact ⟨eVl, dRw⟩
         ·have aw := decide_eq_false R; clear R; obtain ⟨rfl, rfl, rfl⟩ := pE3 H
          go_wp2
          go_ret3
          exact ⟨eVl, dRw⟩
 case rest =>
  clear ap
  obtain ⟨kq, ae, I, N, rfl, rfl, rfl, HA, HJ5, ⟨mc5, rfl⟩⟩ := hcut; cases kq with
  | zero => exact absurd HA.out (by simp [Fk.j2])
  | succ aG =>
   have H := HA.out; clear HA; simp only [Fk.j2] at H
   apply iB H <;> clear H <;> intro V H
   ·have ay := dT V; clear V; obtain ⟨rfl, rfl, rfl⟩ := pE3 H
    go_wp2
    go_ret3
    exact ⟨eVl, dRw⟩
   ·have ay := decide_eq_false V; clear V; have H' := aM H; clear H
    go_wp2
    go_loopg [7, 10] aG (fun kq v7 aP w' => ∃ (D : Int) (C : Int), v7 = .int .i64 D ∧ aP = .int .i64 C ∧ Aside0 (Fk.l0 kq z B D I N C = some (r1, r2, r3)) ∧ Aside0 (kq ≤ aG) ∧ Drawn0 w w')
    case atStart => exact ⟨(ae), (1), sI, sI, H', ⟨Nat.le_refl _⟩, dRw⟩
    case round =>
     clear H'
     obtain ⟨D, C, rfl, rfl, HA, am, ⟨m2, rfl⟩⟩ := hrel; cases gk with
     | zero => exact absurd HA.out (by simp [Fk.l0])
     | succ k2 =>
      have H := HA.out; clear HA; simp only [Fk.l0] at H
      apply iB H <;> clear H <;> intro W H
      ·have az := dT W; clear W; obtain ⟨A, E⟩ : ∃ j_ : Int, (wrap64 (B + C)) = j_ := ⟨_, rfl⟩
       first | rw [E] at H | simp only [E] at H
       have hji18w : (IntKind.i64.wrap (B + C)) = A := (i64_w _).trans E
       apply iN H; clear H; intro ai H; have aQ := dT ai; clear ai
       apply iN H; clear H; intro aj H; have aR := dT aj; clear aj
       apply iB H <;> clear H <;> intro Y H
       ·have aA := dT Y; clear Y; obtain ⟨rfl, rfl, rfl⟩ := pE3 H; have J : 0 ≤ ((A) : Int) := oT aO; have L : (A) < (z.size : Int) := oT aO; have ar := bt_at z (A); replace J := eq_true J; replace L := eq_true L
        go_wp2
        go_ret3
        exact ⟨by first | rfl | (simp; done) | (simp only [← E] <;> (first | rfl | simp)) | (simp [*]; done), dRw⟩
       ·have aA := decide_eq_false Y; clear Y
        apply iB H <;> clear H <;> intro Z H
        ·have aB := dT Z; clear Z; obtain ⟨rfl, rfl, rfl⟩ := pE3 H; have J : 0 ≤ ((A) : Int) := oT aO; have L : (A) < (z.size : Int) := oT aO; have ar := bt_at z (A); replace J := eq_true J; replace L := eq_true L
         go_wp2
         go_ret3
         exact ⟨by first | rfl | (simp; done) | (simp only [← E] <;> (first | rfl | simp)) | (simp [*]; done), dRw⟩
        ·have aB := decide_eq_false Z; clear Z; have H' := aM H; clear H; have J : 0 ≤ ((A) : Int) := oT aO; have L : (A) < (z.size : Int) := oT aO; have ar := bt_at z (A); replace J := eq_true J; replace L := eq_true L
         go_wp2
         go_roundg k2
         case measure => have := HJ5.out; have := am.out; omega
         case rel => exact ⟨(wrap64 ((wrap64 ((wrap64 (D * 64)) + (wrap64 (bt z (A))))) - 128)), (wrap64 (C + 1)), (by first | rfl | (simp; done) | (simp only [← E] <;> (first | rfl | simp)) | (simp [*]; done)), sI, H', ⟨by have := HJ5.out; have := am.out; omega⟩, dRw⟩
      ·have az := decide_eq_false W; clear W
       apply iB H <;> clear H <;> intro aa H
       ·have aC := dT aa; clear aa; obtain ⟨rfl, rfl, rfl⟩ := pE3 H
        go_wp2
        go_ret3
        exact ⟨eVl, dRw⟩
       ·have aC := decide_eq_false aa; clear aa
        apply iB H <;> clear H <;> intro ab H
        ·have aD := dT ab; clear ab; obtain ⟨rfl, rfl, rfl⟩ := pE3 H
         go_wp2
         go_ret3
         exact ⟨eVl, dRw⟩
        ·have aD := decide_eq_false ab; clear ab
         apply iB H <;> clear H <;> intro ac H
         ·have aE := dT ac; clear ac
          apply iB H <;> clear H <;> intro ad H
          ·have aF := dT ad; clear ad; obtain ⟨rfl, rfl, rfl⟩ := pE3 H
           go_wp2
           go_ret3
           exact ⟨eVl, dRw⟩
          ·have aF := decide_eq_false ad; clear ad; obtain ⟨rfl, rfl, rfl⟩ := pE3 H
           go_wp2
           go_ret3
           exact ⟨eVl, dRw⟩
         ·have aE := decide_eq_false ac; clear ac; obtain ⟨rfl, rfl, rfl⟩ := pE3 H
          go_wp2
          go_ret3
          exact ⟨eVl, dRw⟩
def Fla.l0 : Nat → Int → List Int → Int → Option (Bool)
 | 0, _, _, _ => none
 | k + 1, x0, x1, x5 => if (wrap64 (x5 + 1)) < (x1.length : Int) then (if 0 ≤ x5 then (if x5 < (x1.length : Int) then (if x0 ≥ (rd x1 x5) then (if 0 ≤ (wrap64 (x5 + 1)) then (if x0 ≤ (rd x1 (wrap64 (x5 + 1))) then (some true) else (Fla.l0 k x0 x1 (wrap64 (x5 + 2)))) else (none)) else (Fla.l0 k x0 x1 (wrap64 (x5 + 2)))) else (none)) else (none)) else (some false)
def Fla.f (k : Nat) (a0 : Int) (l1 : List Int) : Option (Bool) := Fla.l0 k a0 l1 0
theorem Fla.mono_l : ∀ k, (∀ y0 y1 y2, LeO (Fla.l0 k y0 y1 y2) (Fla.l0 (k + 1) y0 y1 y2))
 | 0 => fun _ _ _ r h => by simp [Fla.l0] at h
 | k + 1 => by
  have ih0 := Fla.mono_l k
  ·intro y0 y1 y2
   unfold Fla.l0
   repeat' first | (with_reducible first | exact ih0 _ _ _ | exact lA | apply lI | refine lB ?_ fun _ => ?_) | exact lN _ | apply lI | refine lB ?_ fun _ => ?_
theorem Fla.mono : ∀ a0 a1 k, LeO (Fla.f k a0 a1) (Fla.f (k + 1) a0 a1) := by
 intro a0 a1 k; have ih0 := Fla.mono_l k
 unfold Fla.f
 repeat' first | (with_reducible first | exact ih0 _ _ _ | exact lA | apply lI | refine lB ?_ fun _ => ?_) | exact lN _ | apply lI | refine lB ?_ fun _ => ?_
theorem Fla.calls (k : Nat) (Z : Int) (A1 : Option Addr) (c1 : Nat) (D : List Int) (r : Bool) (w : World) (ae : Kd.C (Kd.int .i64) w A1 D.length D) (af : D.length ≤ c1) (h : Fla.f k Z D = some r) :
  Calls Try.prog 103 #[.int .i64 Z, .slice A1 D.length c1] w fun e w' => e = .returned (.bool r) ∧ Drawn0 w w' := by
 have Q := aM ae; have ao := aM af; clear ae af; rw [Fla.f] at h; have H := h; clear h; have H' := aM H; clear H
 go_enter Try.func103, Try.ntmps103
 go_wp2
 go_loopg [5] k (fun kq v5 w' => ∃ (z : Int), v5 = .int .i64 z ∧ Aside0 (Fla.l0 kq Z D z = some r) ∧ Aside0 (kq ≤ k) ∧ Drawn0 w w')
 case atStart => exact ⟨(0), sI, H', ⟨Nat.le_refl _⟩, dRw⟩
 case round =>
  clear H'
  obtain ⟨z, rfl, HA, ab, ⟨m1, rfl⟩⟩ := hrel; cases gk with
  | zero => exact absurd HA.out (by simp [Fla.l0])
  | succ k1 =>
   have H := HA.out; clear HA; simp only [Fla.l0] at H
   apply iB H <;> clear H <;> intro U H
   ·have aa := dT U; clear U
    apply iN H; clear H; intro c4 H; have al := dT c4; clear c4
    apply iN H; clear H; intro c5 H; have am := dT c5; clear c5
    apply iB H <;> clear H <;> intro V H
    ·have ag := dT V; clear V; obtain ⟨G, J⟩ : ∃ j_ : Int, (wrap64 (z + 1)) = j_ := ⟨_, rfl⟩
     first | rw [J] at H | simp only [J] at H
     (try rw [J] at aa)
     have hji7w : (IntKind.i64.wrap (z + 1)) = G := (i64_w _).trans J
     apply iN H; clear H; intro c8 H; have an := dT c8; clear c8
     apply iB H <;> clear H <;> intro W H
     ·have ah := dT W; clear W; obtain rfl := Qx H; obtain ⟨⟨I, L, O⟩, A, B⟩ := xAt (Kd.at_int Q.out) z; cases L; obtain ⟨⟨P, R, Y⟩, E, F⟩ := xAt (Kd.at_int Q.out) (G); obtain rfl := sJJ R
      go_wp2
      go_ret
      exact ⟨by first | rfl | (simp; done) | (simp only [← J] <;> (first | rfl | simp)) | (simp [*]; done), dRw⟩
     ·have ah := decide_eq_false W; clear W; have H' := aM H; clear H; obtain ⟨⟨I, L, O⟩, A, B⟩ := xAt (Kd.at_int Q.out) z; cases L; obtain ⟨⟨P, R, Y⟩, E, F⟩ := xAt (Kd.at_int Q.out) (G); obtain rfl := sJJ R
      go_wp2
      go_roundg k1
      case measure => have := ab.out; omega
      case rel => exact ⟨(wrap64 (z + 2)), sI, H', ⟨by have := ab.out; omega⟩, dRw⟩
    ·have ag := decide_eq_false V; clear V; have H' := aM H; clear H; obtain ⟨⟨I, L, O⟩, A, B⟩ := xAt (Kd.at_int Q.out) z; cases L
     go_wp2
     go_roundg k1
     case measure => have := ab.out; omega
     case rel => exact ⟨(wrap64 (z + 2)), sI, H', ⟨by have := ab.out; omega⟩, dRw⟩
   ·have aa := decide_eq_false U; clear U; obtain rfl := Qx H
    go_wp2
    go_ret
    exact ⟨eVl, dRw⟩
def Fl.f (k : Nat) (a0 : Int) : Option (Bool) := (Fla.f k a0 (([65, 90, 97, 122, 95, 95, 913, 929, 931, 937, 945, 969] : List Int))).bind fun t228 => (some t228)
theorem Fl.mono : ∀ a0 k, LeO (Fl.f k a0) (Fl.f (k + 1) a0) := by
 intro a0 k
 unfold Fl.f
 repeat' first | (with_reducible first | exact Fla.mono _ _ _ | exact lA | apply lI | refine lB ?_ fun _ => ?_) | exact lN _ | apply lI | refine lB ?_ fun _ => ?_
theorem Fl.calls (k : Nat) (E : Int) (r : Bool) (w : World) (h : Fl.f k E = some r) :
  Calls Try.prog 95 #[.int .i64 E] w fun e w' => e = .returned (.bool r) ∧ Below w.heap.size w w' := by
 have HB := aM (Qg w.heap.size w); rw [Fl.f] at h; have H := h; clear h; obtain ⟨D, z⟩ : ∃ y_ : List Int, y_ = (([65, 90, 97, 122, 95, 95, 913, 929, 931, 937, 945, 969] : List Int)) := ⟨_, rfl⟩
 first | replace H := rI z H | rw [← z] at H
 have F := aM z; clear z; apply bSx H; clear H; intro I P H; obtain rfl := Qx H
 go_enter Try.func95, Try.ntmps95
 go_wp2_with (first | ((with_reducible refine Qa (N := 4) rfl ?_); refine Wx (Kd.int .i64) _ 3 ?hg (N := 4) ?hd (xs := ([65, 90, 97, 122, 95, 95, 913, 929, 931, 937, 945, 969] : List Int)) (inner := [.int .i64 65, .int .i64 90, .int .i64 97, .int .i64 122, .int .i64 95, .int .i64 95, .int .i64 913, .int .i64 929, .int .i64 931, .int .i64 937, .int .i64 945, .int .i64 969]) (ok := fun _ => True) (okp := fun _ => True) ?hr ?hp (fun _ hk => hk) trivial (Qg _ _) (Nat.le_refl _) (by simp) ?_; (case hd => rfl); (case hg => rfl); (case hr => first | (go_simp; done) | (go_simp; rfl)); (case hp => exact (Reps.one (show Kd.M (Kd.int .i64) _ _ _ 65 [.int .i64 65] from rfl) (Reps.one (show Kd.M (Kd.int .i64) _ _ _ 90 [.int .i64 90] from rfl) (Reps.one (show Kd.M (Kd.int .i64) _ _ _ 97 [.int .i64 97] from rfl) (Reps.one (show Kd.M (Kd.int .i64) _ _ _ 122 [.int .i64 122] from rfl) (Reps.one (show Kd.M (Kd.int .i64) _ _ _ 95 [.int .i64 95] from rfl) (Reps.one (show Kd.M (Kd.int .i64) _ _ _ 95 [.int .i64 95] from rfl) (Reps.one (show Kd.M (Kd.int .i64) _ _ _ 913 [.int .i64 913] from rfl) (Reps.one (show Kd.M (Kd.int .i64) _ _ _ 929 [.int .i64 929] from rfl) (Reps.one (show Kd.M (Kd.int .i64) _ _ _ 931 [.int .i64 931] from rfl) (Reps.one (show Kd.M (Kd.int .i64) _ _ _ 937 [.int .i64 937] from rfl) (Reps.one (show Kd.M (Kd.int .i64) _ _ _ 945 [.int .i64 945] from rfl) (Reps.one (show Kd.M (Kd.int .i64) _ _ _ 969 [.int .i64 969] from rfl) (Reps.none _ _)))))))))))))); intro Q R B hb hg_ hnew_; clear hg_ hnew_; replace B := nW F B; have A := rW B (bP0 HB); replace HB := hS0 HB hb; clear hb B; obtain ⟨J, L, rfl⟩ := sL A) | ((with_reducible refine Qb (f := 103) rfl ?_); refine gL_ (some 5) Try.func103 #[.int .i64 E, .slice J D.length L] ?_; (with_reducible refine (Fla.calls k E _ _ D I _ ?s1 (rR A).2.1 P.out).mono ?_); (case s1 => exact cO (rR A).2.2); rintro e w' ⟨rfl, ⟨nd, rfl⟩⟩; refine ⟨_, rfl, ?_⟩))
 go_ret
 exact ⟨eW, bO HB.out⟩
def Fkb.f (k : Nat) (a0 : Int) : Option (Bool) := (Fl.f k a0).bind fun t229 => (if t229 = true then (some true) else ((Fla.f k a0 (([48, 57, 8242, 8242, 8320, 8329] : List Int))).bind fun t233 => (some t233)))
theorem Fkb.mono : ∀ a0 k, LeO (Fkb.f k a0) (Fkb.f (k + 1) a0) := by
 intro a0 k
 unfold Fkb.f
 repeat' first | (with_reducible first | exact Fl.mono _ _ | exact Fla.mono _ _ _ | exact lA | apply lI | refine lB ?_ fun _ => ?_) | exact lN _ | apply lI | refine lB ?_ fun _ => ?_
theorem Fkb.calls (k : Nat) (B : Int) (r : Bool) (w : World) (h : Fkb.f k B = some r) :
  Calls Try.prog 96 #[.int .i64 B] w fun e w' => e = .returned (.bool r) ∧ Below w.heap.size w w' := by
 have HB := aM (Qg w.heap.size w); rw [Fkb.f] at h; have H := h; clear h; apply bSx H; clear H; intro J P H
 by_cases E : J = true
 ·subst E
  rw [if_pos rfl] at H; obtain rfl := Qx H
  go_enter Try.func96, Try.ntmps96
  go_wp2_with (first | ((with_reducible refine Qb (f := 95) rfl ?_); refine gL_ (some 4) Try.func95 #[.int .i64 B] ?_; (with_reducible refine (Fl.calls k B true _ P.out).mono ?_); rintro e Y ⟨rfl, hb⟩; refine ⟨_, rfl, ?_⟩; replace HB := hS0 HB hb; (try clear hb)))
  go_ret
  exact ⟨eW, bO HB.out⟩
 ·replace E := Qc E; subst E
  rw [if_neg nF] at H; obtain ⟨L, z⟩ : ∃ y_ : List Int, y_ = (([48, 57, 8242, 8242, 8320, 8329] : List Int)) := ⟨_, rfl⟩
  first | replace H := rI z H | rw [← z] at H
  have F := aM z; clear z; apply bSx H; clear H; intro O R H; obtain rfl := Qx H
  go_enter Try.func96, Try.ntmps96
  go_wp2_with (first | ((with_reducible refine Qb (f := 95) rfl ?_); refine gL_ (some 4) Try.func95 #[.int .i64 B] ?_; (with_reducible refine (Fl.calls k B false _ P.out).mono ?_); rintro e Z ⟨rfl, hb⟩; refine ⟨_, rfl, ?_⟩; replace HB := hS0 HB hb; (try clear hb); (try clear hk)) | ((with_reducible refine Qa (N := 7) rfl ?_); (try (refine gate_guard (by rfl) ?_; dsimp only)); refine Wx (Kd.int .i64) _ 3 ?hg (N := 7) ?hd (xs := ([48, 57, 8242, 8242, 8320, 8329] : List Int)) (inner := [.int .i64 48, .int .i64 57, .int .i64 8242, .int .i64 8242, .int .i64 8320, .int .i64 8329]) (ok := fun _ => True) (okp := fun _ => True) ?hr ?hp (fun _ hk => hk) trivial (Qg _ _) (Nat.le_refl _) (by simp) ?_; (case hd => rfl); (case hg => rfl); (case hr => first | (go_simp; done) | (go_simp; rfl)); (case hp => exact (Reps.one (show Kd.M (Kd.int .i64) _ _ _ 48 [.int .i64 48] from rfl) (Reps.one (show Kd.M (Kd.int .i64) _ _ _ 57 [.int .i64 57] from rfl) (Reps.one (show Kd.M (Kd.int .i64) _ _ _ 8242 [.int .i64 8242] from rfl) (Reps.one (show Kd.M (Kd.int .i64) _ _ _ 8242 [.int .i64 8242] from rfl) (Reps.one (show Kd.M (Kd.int .i64) _ _ _ 8320 [.int .i64 8320] from rfl) (Reps.one (show Kd.M (Kd.int .i64) _ _ _ 8329 [.int .i64 8329] from rfl) (Reps.none _ _)))))))); intro U w7 D hb hg_ hnew_; clear hg_ hnew_; replace D := nW F D; have A := rW D (bP0 HB); replace HB := hS0 HB hb; clear hb D; obtain ⟨V, W, rfl⟩ := sL A) | (go_at_call 103; (with_reducible refine (Fla.calls k B _ _ L O _ ?s1 (rR A).2.1 R.out).mono ?_); (case s1 => exact cO (rR A).2.2); rintro e w' ⟨rfl, ⟨nd, rfl⟩⟩))
  go_ret
  exact ⟨eW, bO HB.out⟩
def Fka.l0 : Nat → ByteArray → List ByteArray → Int → Option (Bool)
 | 0, _, _, _ => none
 | k + 1, x0, x3, x4 => if x4 < (x3.length : Int) then (if 0 ≤ x4 then (if (rdOf ByteArray.empty x3 x4).toList = x0.toList then (some true) else (Fka.l0 k x0 x3 (wrap64 (x4 + 1)))) else (none)) else (some false)
def Fka.f (k : Nat) (a0 : ByteArray) : Option (Bool) := Fka.l0 k a0 (([(⟨#[97, 110, 100]⟩ : ByteArray), (⟨#[111, 114]⟩ : ByteArray), (⟨#[110, 111, 116]⟩ : ByteArray), (⟨#[101, 120]⟩ : ByteArray), (⟨#[97, 108, 108]⟩ : ByteArray), (⟨#[109, 111, 100]⟩ : ByteArray), (⟨#[116, 114, 117, 101]⟩ : ByteArray), (⟨#[102, 97, 108, 115, 101]⟩ : ByteArray)] : List ByteArray)) 0
theorem Fka.mono_l : ∀ k, (∀ y0 y1 y2, LeO (Fka.l0 k y0 y1 y2) (Fka.l0 (k + 1) y0 y1 y2))
 | 0 => fun _ _ _ r h => by simp [Fka.l0] at h
 | k + 1 => by
  have ih0 := Fka.mono_l k
  ·intro y0 y1 y2
   unfold Fka.l0
   repeat' first | (with_reducible first | exact ih0 _ _ _ | exact lA | apply lI | refine lB ?_ fun _ => ?_) | exact lN _ | apply lI | refine lB ?_ fun _ => ?_
theorem Fka.mono : ∀ a0 k, LeO (Fka.f k a0) (Fka.f (k + 1) a0) := by
 intro a0 k; have ih0 := Fka.mono_l k
 unfold Fka.f
 repeat' first | (with_reducible first | exact ih0 _ _ _ | exact lA | apply lI | refine lB ?_ fun _ => ?_) | exact lN _ | apply lI | refine lB ?_ fun _ => ?_
theorem Fka.calls (k : Nat) (O : ByteArray) (r : Bool) (w : World) (h : Fka.f k O = some r) :
  Calls Try.prog 97 #[.string O] w fun e w' => e = .returned (.bool r) ∧ Below w.heap.size w w' := by
 have HB := aM (Qg w.heap.size w); rw [Fka.f] at h; have H := h; clear h; obtain ⟨C, E⟩ : ∃ y_ : List ByteArray, y_ = (([(⟨#[97, 110, 100]⟩ : ByteArray), (⟨#[111, 114]⟩ : ByteArray), (⟨#[110, 111, 116]⟩ : ByteArray), (⟨#[101, 120]⟩ : ByteArray), (⟨#[97, 108, 108]⟩ : ByteArray), (⟨#[109, 111, 100]⟩ : ByteArray), (⟨#[116, 114, 117, 101]⟩ : ByteArray), (⟨#[102, 97, 108, 115, 101]⟩ : ByteArray)] : List ByteArray)) := ⟨_, rfl⟩
 first | replace H := rI E H | rw [← E] at H
 have P := aM E; clear E; have R := aM H; clear H
 go_enter Try.func97, Try.ntmps97
 go_wp2_with (first | ((with_reducible refine Qa (N := 5) rfl ?_); refine Wx Kd.string _ 9 ?hg (N := 5) ?hd (xs := ([(⟨#[97, 110, 100]⟩ : ByteArray), (⟨#[111, 114]⟩ : ByteArray), (⟨#[110, 111, 116]⟩ : ByteArray), (⟨#[101, 120]⟩ : ByteArray), (⟨#[97, 108, 108]⟩ : ByteArray), (⟨#[109, 111, 100]⟩ : ByteArray), (⟨#[116, 114, 117, 101]⟩ : ByteArray), (⟨#[102, 97, 108, 115, 101]⟩ : ByteArray)] : List ByteArray)) (inner := [.string (⟨#[97, 110, 100]⟩ : ByteArray), .string (⟨#[111, 114]⟩ : ByteArray), .string (⟨#[110, 111, 116]⟩ : ByteArray), .string (⟨#[101, 120]⟩ : ByteArray), .string (⟨#[97, 108, 108]⟩ : ByteArray), .string (⟨#[109, 111, 100]⟩ : ByteArray), .string (⟨#[116, 114, 117, 101]⟩ : ByteArray), .string (⟨#[102, 97, 108, 115, 101]⟩ : ByteArray)]) (ok := fun _ => True) (okp := fun _ => True) ?hr ?hp (fun _ hk => hk) trivial (Qg _ _) (Nat.le_refl _) (by simp) ?_; (case hd => rfl); (case hg => rfl); (case hr => first | (go_simp; done) | (go_simp; rfl)); (case hp => exact (Reps.one (show Kd.M Kd.string _ _ _ (⟨#[97, 110, 100]⟩ : ByteArray) [.string (⟨#[97, 110, 100]⟩ : ByteArray)] from rfl) (Reps.one (show Kd.M Kd.string _ _ _ (⟨#[111, 114]⟩ : ByteArray) [.string (⟨#[111, 114]⟩ : ByteArray)] from rfl) (Reps.one (show Kd.M Kd.string _ _ _ (⟨#[110, 111, 116]⟩ : ByteArray) [.string (⟨#[110, 111, 116]⟩ : ByteArray)] from rfl) (Reps.one (show Kd.M Kd.string _ _ _ (⟨#[101, 120]⟩ : ByteArray) [.string (⟨#[101, 120]⟩ : ByteArray)] from rfl) (Reps.one (show Kd.M Kd.string _ _ _ (⟨#[97, 108, 108]⟩ : ByteArray) [.string (⟨#[97, 108, 108]⟩ : ByteArray)] from rfl) (Reps.one (show Kd.M Kd.string _ _ _ (⟨#[109, 111, 100]⟩ : ByteArray) [.string (⟨#[109, 111, 100]⟩ : ByteArray)] from rfl) (Reps.one (show Kd.M Kd.string _ _ _ (⟨#[116, 114, 117, 101]⟩ : ByteArray) [.string (⟨#[116, 114, 117, 101]⟩ : ByteArray)] from rfl) (Reps.one (show Kd.M Kd.string _ _ _ (⟨#[102, 97, 108, 115, 101]⟩ : ByteArray) [.string (⟨#[102, 97, 108, 115, 101]⟩ : ByteArray)] from rfl) (Reps.none _ _)))))))))); intro W w2 G hb hg_ hnew_; clear hg_ hnew_; replace G := nW P G; have Q := rW G (bP0 HB); replace HB := hS0 HB hb; clear hb G))
 go_loopg [4] k (fun kq v4 w' => ∃ (z : Int), v4 = .int .i64 z ∧ Aside0 (Fka.l0 kq O C z = some r) ∧ Aside0 (kq ≤ k) ∧ RA Kd.string 9 w' w W C ∧ BA w w')
 case atStart => exact ⟨(0), sI, R, ⟨Nat.le_refl _⟩, rQ Q, bT0 HB⟩
 case round =>
  clear R
  obtain ⟨z, rfl, HA, am, D, HB⟩ := hrel; cases gk with
  | zero => exact absurd HA.out (by simp [Fka.l0])
  | succ k1 =>
   have H := HA.out; clear HA; simp only [Fka.l0] at H
   apply iB H <;> clear H <;> intro I H
   ·have Y := dT I; clear I
    apply iN H; clear H; intro U H; have af := dT U; clear U
    apply iB H <;> clear H <;> intro L H
    ·obtain ⟨Z, aa⟩ := bq L; clear L; obtain rfl := Qx H; obtain ⟨ag, ah, rfl⟩ := sL D; obtain ⟨⟨V, F, J⟩, A, B⟩ := xAt (Kd.at_string (rR D).2.2) z; cases F
     go_wp2
     go_ret
     exact ⟨eW, bO HB.out⟩
    ·obtain ⟨Z, aa⟩ := bn L; have R := aM H; clear H; obtain ⟨ai, aj, rfl⟩ := sL D; obtain ⟨⟨V, F, J⟩, A, B⟩ := xAt (Kd.at_string (rR D).2.2) z; cases F
     go_wp2
     go_roundg k1
     case measure => have := am.out; omega
     case rel => exact ⟨(wrap64 (z + 1)), sI, R, ⟨by have := am.out; omega⟩, rQ D, bT0 HB⟩
   ·have Y := decide_eq_false I; clear I; obtain rfl := Qx H; obtain ⟨ak, al, rfl⟩ := sL D
    go_wp2
    go_ret
    exact ⟨eW, bO HB.out⟩
def Fjc.l0 : Nat → ByteArray → Int → Int → Option (Bool)
 | 0, _, _, _ => none
 | k + 1, x0, x3, x4 => if x4 < (x0.size : Int) then ((Fk.f k x0 x4).bind fun bt239 => (if bt239.2.2 = true then (if x3 = 0 then ((Fl.f k bt239.1).bind fun t242 => (if t242 = true then ((Fkb.f k bt239.1).bind fun t243 => (if t243 = true then (Fjc.l0 k x0 (wrap64 (x3 + 1)) (wrap64 (x4 + bt239.2.1))) else (some false))) else (some false))) else ((Fkb.f k bt239.1).bind fun t244 => (if t244 = true then (Fjc.l0 k x0 (wrap64 (x3 + 1)) (wrap64 (x4 + bt239.2.1))) else (some false)))) else (some false))) else (if x3 ≥ 1 then (if x3 ≤ 16 then ((Fka.f k x0).bind fun t238 => (some (!t238))) else (some false)) else (some false))
def Fjc.f (k : Nat) (a0 : ByteArray) : Option (Bool) := Fjc.l0 k a0 0 0
theorem Fjc.mono_l : ∀ k, (∀ y0 y1 y2, LeO (Fjc.l0 k y0 y1 y2) (Fjc.l0 (k + 1) y0 y1 y2))
 | 0 => fun _ _ _ r h => by simp [Fjc.l0] at h
 | k + 1 => by
  have ih0 := Fjc.mono_l k
  ·intro y0 y1 y2
   unfold Fjc.l0
   repeat' first | (with_reducible first | exact ih0 _ _ _ | exact Fk.mono _ _ _ | exact Fka.mono _ _ | exact Fkb.mono _ _ | exact Fl.mono _ _ | exact lA | apply lI | refine lB ?_ fun _ => ?_) | exact lN _ | apply lI | refine lB ?_ fun _ => ?_
theorem Fjc.mono : ∀ a0 k, LeO (Fjc.f k a0) (Fjc.f (k + 1) a0) := by
 intro a0 k; have ih0 := Fjc.mono_l k
 unfold Fjc.f
 repeat' first | (with_reducible first | exact ih0 _ _ _ | exact Fk.mono _ _ _ | exact Fka.mono _ _ | exact Fkb.mono _ _ | exact Fl.mono _ _ | exact lA | apply lI | refine lB ?_ fun _ => ?_) | exact lN _ | apply lI | refine lB ?_ fun _ => ?_
theorem Fjc.calls (k : Nat) (D : ByteArray) (r : Bool) (w : World) (h : Fjc.f k D = some r) :
  Calls Try.prog 75 #[.string D] w fun e w' => e = .returned (.bool r) ∧ Below w.heap.size w w' := by
 have HB := aM (Qg w.heap.size w); rw [Fjc.f] at h; have H := h; clear h; have H' := aM H; clear H
 go_enter Try.func75, Try.ntmps75
 go_wp2
 go_loopg [3, 4] k (fun kq v3 v4 w' => ∃ (B : Int) (z : Int), v3 = .int .i64 B ∧ v4 = .int .i64 z ∧ Aside0 (Fjc.l0 kq D B z = some r) ∧ Aside0 (kq ≤ k) ∧ BA w w')
 case atStart => exact ⟨(0), (0), sI, sI, H', ⟨Nat.le_refl _⟩, bT0 HB⟩
 case round =>
  clear H'; obtain ⟨B, z, rfl, rfl, HA, R, HB⟩ := hrel; cases gk with
  | zero => exact absurd HA.out (by simp [Fjc.l0])
  | succ k1 =>
   have H := HA.out; clear HA; simp only [Fjc.l0] at H
   apply iB H <;> clear H <;> intro O H
   ·have ah := dT O; clear O; replace H := QZ H; obtain ⟨⟨A, C, Q⟩, ad, H⟩ := H; replace H : (if Q = true then (if B = 0 then ((Fl.f k1 A).bind fun G => (if G = true then ((Fkb.f k1 A).bind fun I => (if I = true then (Fjc.l0 k1 D (wrap64 (B + 1)) (wrap64 (z + C))) else (some false))) else (some false))) else ((Fkb.f k1 A).bind fun J => (if J = true then (Fjc.l0 k1 D (wrap64 (B + 1)) (wrap64 (z + C))) else (some false)))) else (some false)) = some r := H; have P := aM ad; clear ad
    by_cases Y : Q = true
    ·subst Y
     rw [if_pos rfl] at H
     apply iB H <;> clear H <;> intro U H
     ·obtain ⟨ai, aj⟩ := bq U; clear U; apply bSx H; clear H; intro G A6 H
      by_cases Z : G = true
      ·subst Z
       rw [if_pos rfl] at H; apply bSx H; clear H; intro I A8 H
       by_cases c9 : I = true
       ·subst c9
        rw [if_pos rfl] at H; have H' := aM H; clear H
        go_wp2_with (first | ((with_reducible refine Qb (f := 94) rfl ?_); refine gL_ (some 15) Try.func94 #[.string D, .int .i64 z] ?_; (with_reducible refine (Fk.calls k1 D z A C true _ P.out).mono ?_); rintro e w' ⟨rfl, ⟨nd, rfl⟩⟩; refine ⟨_, rfl, ?_⟩) | (go_at_call 95; (with_reducible refine (Fl.calls k1 A true _ A6.out).mono ?_); rintro e aq ⟨rfl, hb⟩; replace HB := hS0 HB hb; (try clear hb)) | (go_at_call 96; (with_reducible refine (Fkb.calls k1 A true _ A8.out).mono ?_); rintro e ar ⟨rfl, hb⟩; replace HB := hS0 HB hb; (try clear hb)))
        go_roundg k1
        case measure => have := R.out; omega
        case rel => exact ⟨(wrap64 (B + 1)), (wrap64 (z + C)), sI, sI, H', ⟨by have := R.out; omega⟩, bT0 HB⟩
       ·replace c9 := Qc c9; subst c9
        rw [if_neg nF] at H; obtain rfl := Qx H
        go_wp2_with (first | ((with_reducible refine Qb (f := 94) rfl ?_); refine gL_ (some 15) Try.func94 #[.string D, .int .i64 z] ?_; (with_reducible refine (Fk.calls k1 D z A C true _ P.out).mono ?_); rintro e w' ⟨rfl, ⟨nd, rfl⟩⟩; refine ⟨_, rfl, ?_⟩) | (go_at_call 95; (with_reducible refine (Fl.calls k1 A true _ A6.out).mono ?_); rintro e au ⟨rfl, hb⟩; replace HB := hS0 HB hb; (try clear hb)) | (go_at_call 96; (with_reducible refine (Fkb.calls k1 A false _ A8.out).mono ?_); rintro e av ⟨rfl, hb⟩; replace HB := hS0 HB hb; (try clear hb)))
        go_ret
        exact ⟨eW, bO HB.out⟩
      ·replace Z := Qc Z; subst Z
       rw [if_neg nF] at H; obtain rfl := Qx H
       go_wp2_with (first | ((with_reducible refine Qb (f := 94) rfl ?_); refine gL_ (some 15) Try.func94 #[.string D, .int .i64 z] ?_; (with_reducible refine (Fk.calls k1 D z A C true _ P.out).mono ?_); rintro e w' ⟨rfl, ⟨nd, rfl⟩⟩; refine ⟨_, rfl, ?_⟩) | (go_at_call 95; (with_reducible refine (Fl.calls k1 A false _ A6.out).mono ?_); rintro e aw ⟨rfl, hb⟩; replace HB := hS0 HB hb; (try clear hb)))
       go_ret
       exact ⟨eW, bO HB.out⟩
     ·obtain ⟨ai, aj⟩ := bn U; apply bSx H; clear H; intro J ag H
      by_cases L : J = true
      ·subst L
       rw [if_pos rfl] at H; have H' := aM H; clear H
       go_wp2_with (first | ((with_reducible refine Qb (f := 94) rfl ?_); refine gL_ (some 15) Try.func94 #[.string D, .int .i64 z] ?_; (with_reducible refine (Fk.calls k1 D z A C true _ P.out).mono ?_); rintro e w' ⟨rfl, ⟨nd, rfl⟩⟩; refine ⟨_, rfl, ?_⟩) | (go_at_call 96; (with_reducible refine (Fkb.calls k1 A true _ ag.out).mono ?_); rintro e ax ⟨rfl, hb⟩; replace HB := hS0 HB hb; (try clear hb)))
       go_roundg k1
       case measure => have := R.out; omega
       case rel => exact ⟨(wrap64 (B + 1)), (wrap64 (z + C)), sI, sI, H', ⟨by have := R.out; omega⟩, bT0 HB⟩
      ·replace L := Qc L; subst L
       rw [if_neg nF] at H; obtain rfl := Qx H
       go_wp2_with (first | ((with_reducible refine Qb (f := 94) rfl ?_); refine gL_ (some 15) Try.func94 #[.string D, .int .i64 z] ?_; (with_reducible refine (Fk.calls k1 D z A C true _ P.out).mono ?_); rintro e w' ⟨rfl, ⟨nd, rfl⟩⟩; refine ⟨_, rfl, ?_⟩) | (go_at_call 96; (with_reducible refine (Fkb.calls k1 A false _ ag.out).mono ?_); rintro e ay ⟨rfl, hb⟩; replace HB := hS0 HB hb; (try clear hb)))
       go_ret
       exact ⟨eW, bO HB.out⟩
    ·replace Y := Qc Y; subst Y
     rw [if_neg nF] at H; obtain rfl := Qx H
     go_wp2_with (first | ((with_reducible refine Qb (f := 94) rfl ?_); refine gL_ (some 15) Try.func94 #[.string D, .int .i64 z] ?_; (with_reducible refine (Fk.calls k1 D z A C false _ P.out).mono ?_); rintro e w' ⟨rfl, ⟨nd, rfl⟩⟩; refine ⟨_, rfl, ?_⟩))
     go_ret
     exact ⟨eW, bO HB.out⟩
   ·have ah := decide_eq_false O; clear O
    apply iB H <;> clear H <;> intro E H
    ·have ab := dT E; clear E
     apply iB H <;> clear H <;> intro F H
     ·have ac := dT F; clear F; apply bSx H; clear H; intro al an H; obtain rfl := Qx H
      go_wp2_with (first | (go_at_call 97; (with_reducible refine (Fka.calls k1 D al _ an.out).mono ?_); rintro e az ⟨rfl, hb⟩; replace HB := hS0 HB hb; (try clear hb)))
      go_ret
      exact ⟨eW, bO HB.out⟩
     ·have ac := decide_eq_false F; clear F; obtain rfl := Qx H
      go_wp2
      go_ret
      exact ⟨eW, bO HB.out⟩
    ·have ab := decide_eq_false E; clear E; obtain rfl := Qx H
     go_wp2
     go_ret
     exact ⟨eW, bO HB.out⟩
def Fkc.l0 : Nat → List ByteArray → Int → Option (Bool)
 | 0, _, _ => none
 | k + 1, x0, x3 => if x3 < (x0.length : Int) then (if 0 ≤ x3 then ((Fjc.f k (rdOf ByteArray.empty x0 x3)).bind fun t246 => (if t246 = true then (if x3 > 0 then (if 0 ≤ (wrap64 (x3 - 1)) then (if (wrap64 (x3 - 1)) < (x0.length : Int) then (if ((Op.bytesLess ((rdOf ByteArray.empty x0 (wrap64 (x3 - 1))).toList) ((rdOf ByteArray.empty x0 x3).toList)) = true) then (Fkc.l0 k x0 (wrap64 (x3 + 1))) else (some false)) else (none)) else (none)) else (Fkc.l0 k x0 (wrap64 (x3 + 1)))) else (some false))) else (none)) else (some true)
def Fkc.f (k : Nat) (l0 : List ByteArray) : Option (Bool) := Fkc.l0 k l0 0
theorem Fkc.mono_l : ∀ k, (∀ y0 y1, LeO (Fkc.l0 k y0 y1) (Fkc.l0 (k + 1) y0 y1))
 | 0 => fun _ _ r h => by simp [Fkc.l0] at h
 | k + 1 => by
  have ih0 := Fkc.mono_l k
  ·intro y0 y1
   unfold Fkc.l0
   repeat' first | (with_reducible first | exact ih0 _ _ | exact Fjc.mono _ _ | exact lA | apply lI | refine lB ?_ fun _ => ?_) | exact lN _ | apply lI | refine lB ?_ fun _ => ?_
theorem Fkc.mono : ∀ a0 k, LeO (Fkc.f k a0) (Fkc.f (k + 1) a0) := by
 intro a0 k; have ih0 := Fkc.mono_l k
 unfold Fkc.f
 repeat' first | (with_reducible first | exact ih0 _ _ | exact Fjc.mono _ _ | exact lA | apply lI | refine lB ?_ fun _ => ?_) | exact lN _ | apply lI | refine lB ?_ fun _ => ?_
def Fkc.T4 : Bool × List (List Nat × List Nat) := (true, [([], []), ([], []), ([0, 1], [0, 1]), ([2], [2]), ([3], [3]), ([4], [4]), ([5, 4], [5]), ([6], [6]), ([7, 6], [6, 7]), ([8, 6, 6], [6, 8]), ([9], [9]), ([9], [9]), ([11, 9], [9, 11]), ([10, 12, 9], [9, 10, 12]), ([13, 9], [9, 13]), ([9], [9]), ([9], [9]), ([15, 16, 9], [9, 15, 16]), ([17, 9], [9, 17]), ([14, 18, 9], [9, 14, 18]), ([9, 19, 6], [6, 9, 19]), ([6, 20], [6, 20])])
def Fkc.B4 : List Nat := [0, 0, 3, 7, 15, 31, 63, 127, 255, 511, 1023, 1023, 3071, 8191, 16383, 1023, 1023, 99327, 230399, 524287, 1048575, 2097151]
theorem Fkc.tab4 : rtab .any (opsOf Try.f51 4) = Fkc.T4 := by kernel_rfl
theorem Fkc.bits4 : waitsOk Fkc.T4.2 Fkc.B4 = true := by kernel_rfl
theorem Fkc.calls (k : Nat) (A0 : Option Addr) (c0 : Nat) (E : List ByteArray) (r : Bool) (w : World) (an : Kd.C Kd.string w A0 E.length E) (ao : E.length ≤ c0) (h : Fkc.f k E = some r) :
  Calls Try.prog 51 #[.slice A0 E.length c0] w fun e w' => e = .returned (.bool r) ∧ Below w.heap.size w w' := by
 have W := aM an; have aB := aM ao; clear an ao; have HB := aM (Qg w.heap.size w); rw [Fkc.f] at h; have H := h; clear h; have H' := aM H; clear H
 go_enter Try.func51, Try.ntmps51
 go_wp2
 go_loopg [3] k (fun kq v3 w' => ∃ (z : Int), v3 = .int .i64 z ∧ Aside0 (Fkc.l0 kq E z = some r) ∧ Aside0 (kq ≤ k) ∧ BA w w')
 case atStart => exact ⟨(0), sI, H', ⟨Nat.le_refl _⟩, bT0 HB⟩
 case round =>
  clear H'; obtain ⟨z, rfl, HA, ai, HB⟩ := hrel; cases gk with
  | zero => exact absurd HA.out (by simp [Fkc.l0])
  | succ k1 =>
   have H := HA.out; clear HA; simp only [Fkc.l0] at H
   apply iB H <;> clear H <;> intro c2 H
   ·have aq := dT c2; clear c2
    apply iN H; clear H; intro c3 H; have ay := dT c3; clear c3; apply bSx H; clear H; intro ar A4 H
    by_cases c5 : ar = true
    ·subst c5
     rw [if_pos rfl] at H
     apply iB H <;> clear H <;> intro c6 H
     ·have au := dT c6; clear c6; obtain ⟨O, Y⟩ : ∃ j_ : Int, (wrap64 (z - 1)) = j_ := ⟨_, rfl⟩
      first | rw [Y] at H | simp only [Y] at H
      (try rw [Y] at A4)
      have hji7w : (IntKind.i64.wrap (z - 1)) = O := (i64_w _).trans Y
      apply iN H; clear H; intro c8 H; have az := dT c8; clear c8
      apply iN H; clear H; intro c9 H; have aA := dT c9; clear c9
      apply iB H <;> clear H <;> intro Z H
      ·have am : (Op.bytesLess ((rdOf ByteArray.empty E (O)).toList) ((rdOf ByteArray.empty E z).toList)) = true := Z; clear Z; have H' := aM H; clear H
       try go_wp2
       replace HB := aM (below_drew1 HB.out); have L : 0 ≤ (z : Int) := oT aO; have M : z < (E.length : Int) := oT aO; obtain ⟨D, P, A⟩ := Kd.at_string W.out z L M; have B := A; cases P; replace A := cX HB A; replace L := eq_true L; replace M := eq_true M; have Q : 0 ≤ ((O) : Int) := oT aO; have R : (O) < (E.length : Int) := oT aO; obtain ⟨aa, ac, F⟩ := Kd.at_string W.out (O) Q R; have G := F; obtain rfl := sJJ ac; replace F := cX HB F; replace Q := eq_true Q; replace R := eq_true R; have U : 0 ≤ (z : Int) := oT aO; have V : z < (E.length : Int) := oT aO; obtain ⟨ab, ad, I⟩ := Kd.at_string W.out z U V; have J := I; obtain rfl := sJJ ad; replace I := cX HB I; replace U := eq_true U; replace V := eq_true V; refine start_ (n := 22) (S := fun w' => w'.cell? (D.add (z).toNat) = some (.string (rdOf ByteArray.empty E z)) ∧ w'.cell? (D.add ((O)).toNat) = some (.string (rdOf ByteArray.empty E (O))) ∧ w'.cell? (D.add (z).toNat) = some (.string (rdOf ByteArray.empty E z))) (ds := []) (bl 22 0) (by kernel_rfl) rfl rfl ⟨((HB.out.cell (World.block_lt_of_cell? w _ B)).trans B), ((HB.out.cell (World.block_lt_of_cell? w _ G)).trans G), ((HB.out.cell (World.block_lt_of_cell? w _ J)).trans J)⟩ (fun af => ?_); refine with_tabW Fkc.tab4 Fkc.bits4 (fun ae ag => ?_); generalize wr.drew = aC at HB A F I af ⊢; refine pu_ 0 10 (bl 22 1) ae ?_; refine pu_ 1 11 (bl 22 3) ae ?_; refine pu_ 2 12 (bl 22 7) ae ?_; refine tk3_ 3 13 (bl 22 15) ae ag af ?_; refine one_ (i := 4) (N := some 14) (bl 22 31) rfl rfl (one_of ae.out (by kernel_rfl)) (by decide) (fun K hK => ?_); refine gS_ Try.func75 #[.string (rdOf ByteArray.empty E z)] ?_
       with_reducible refine (Fjc.calls k1 (rdOf ByteArray.empty E z) true _ A4.out).mono ?_
       rintro e aD ⟨rfl, hb⟩; refine ⟨_, rfl, ?_⟩; replace HB := hS0 HB hb
       (try clear hb)
       (try clear ah)
       (try clear hk)
       (try clear hi)
       refine hK.out _ _ ⟨((HB.out.cell (World.block_lt_of_cell? w _ B)).trans B), ((HB.out.cell (World.block_lt_of_cell? w _ G)).trans G), ((HB.out.cell (World.block_lt_of_cell? w _ J)).trans J)⟩ (fun af => ?_); clear hK K; refine nm_ 14 ?_; refine pu_ 5 15 (bl 22 63) ae ?_; refine pu_ 6 16 (bl 22 127) ae ?_; refine pu_ 7 17 (bl 22 255) ae ?_; refine pu_ 8 18 (bl 22 511) ae ?_; refine pu_ 9 19 (bl 22 1023) ae ?_; refine pu_ 10 20 (bl 22 2047) ae ?_; refine pu_ 11 21 (bl 22 4095) ae ?_; refine pu_ 12 22 (bl 22 8191) ae ?_; refine pu_ 13 23 (bl 22 16383) ae ?_; refine pu_ 15 25 (bl 22 49151) ae ?_; refine pu_ 16 26 (bl 22 114687) ae ?_; refine pu_ 17 27 (bl 22 245759) ae ?_; refine tk3_ 14 24 (bl 22 262143) ae ag af ?_; refine tk3_ 18 28 (bl 22 524287) ae ag af ?_; refine pu_ 19 29 (bl 22 1048575) ae ?_; refine pu_ 20 30 (bl 22 2097151) ae ?_; refine pu_ 21 31 (bl 22 4194303) ae ?_; refine done_ (done_of ae.out (by kernel_rfl)) ?_
       try go_wp2
       go_roundg k1
       case measure => have := ai.out; omega
       case rel => exact ⟨(wrap64 (z + 1)), sI, H', ⟨by have := ai.out; omega⟩, bT0 HB⟩
      ·have am : (Op.bytesLess ((rdOf ByteArray.empty E (O)).toList) ((rdOf ByteArray.empty E z).toList)) = false := by simpa using Z
       clear Z; obtain rfl := Qx H
       try go_wp2
       replace HB := aM (below_drew1 HB.out); have L : 0 ≤ (z : Int) := oT aO; have M : z < (E.length : Int) := oT aO; obtain ⟨D, P, A⟩ := Kd.at_string W.out z L M; have B := A; cases P; replace A := cX HB A; replace L := eq_true L; replace M := eq_true M; have Q : 0 ≤ ((O) : Int) := oT aO; have R : (O) < (E.length : Int) := oT aO; obtain ⟨aa, ac, F⟩ := Kd.at_string W.out (O) Q R; have G := F; obtain rfl := sJJ ac; replace F := cX HB F; replace Q := eq_true Q; replace R := eq_true R; have U : 0 ≤ (z : Int) := oT aO; have V : z < (E.length : Int) := oT aO; obtain ⟨ab, ad, I⟩ := Kd.at_string W.out z U V; have J := I; obtain rfl := sJJ ad; replace I := cX HB I; replace U := eq_true U; replace V := eq_true V; refine start_ (n := 22) (S := fun w' => w'.cell? (D.add (z).toNat) = some (.string (rdOf ByteArray.empty E z)) ∧ w'.cell? (D.add ((O)).toNat) = some (.string (rdOf ByteArray.empty E (O))) ∧ w'.cell? (D.add (z).toNat) = some (.string (rdOf ByteArray.empty E z))) (ds := []) (bl 22 0) (by kernel_rfl) rfl rfl ⟨((HB.out.cell (World.block_lt_of_cell? w _ B)).trans B), ((HB.out.cell (World.block_lt_of_cell? w _ G)).trans G), ((HB.out.cell (World.block_lt_of_cell? w _ J)).trans J)⟩ (fun af => ?_); refine with_tabW Fkc.tab4 Fkc.bits4 (fun ae ag => ?_); generalize wr.drew = aE at HB A F I af ⊢; refine pu_ 0 10 (bl 22 1) ae ?_; refine pu_ 1 11 (bl 22 3) ae ?_; refine pu_ 2 12 (bl 22 7) ae ?_; refine tk3_ 3 13 (bl 22 15) ae ag af ?_; refine one_ (i := 4) (N := some 14) (bl 22 31) rfl rfl (one_of ae.out (by kernel_rfl)) (by decide) (fun K hK => ?_); refine gS_ Try.func75 #[.string (rdOf ByteArray.empty E z)] ?_
       with_reducible refine (Fjc.calls k1 (rdOf ByteArray.empty E z) true _ A4.out).mono ?_
       rintro e aF ⟨rfl, hb⟩; refine ⟨_, rfl, ?_⟩; replace HB := hS0 HB hb
       (try clear hb)
       (try clear ah)
       (try clear hk)
       (try clear hi)
       refine hK.out _ _ ⟨((HB.out.cell (World.block_lt_of_cell? w _ B)).trans B), ((HB.out.cell (World.block_lt_of_cell? w _ G)).trans G), ((HB.out.cell (World.block_lt_of_cell? w _ J)).trans J)⟩ (fun af => ?_); clear hK K; refine nm_ 14 ?_; refine pu_ 5 15 (bl 22 63) ae ?_; refine pu_ 6 16 (bl 22 127) ae ?_; refine pu_ 7 17 (bl 22 255) ae ?_; refine pu_ 8 18 (bl 22 511) ae ?_; refine pu_ 9 19 (bl 22 1023) ae ?_; refine pu_ 10 20 (bl 22 2047) ae ?_; refine pu_ 11 21 (bl 22 4095) ae ?_; refine pu_ 12 22 (bl 22 8191) ae ?_; refine pu_ 13 23 (bl 22 16383) ae ?_; refine pu_ 15 25 (bl 22 49151) ae ?_; refine pu_ 16 26 (bl 22 114687) ae ?_; refine pu_ 17 27 (bl 22 245759) ae ?_; refine tk3_ 14 24 (bl 22 262143) ae ag af ?_; refine tk3_ 18 28 (bl 22 524287) ae ag af ?_; refine pu_ 19 29 (bl 22 1048575) ae ?_; refine pu_ 20 30 (bl 22 2097151) ae ?_; refine pu_ 21 31 (bl 22 4194303) ae ?_; refine done_ (done_of ae.out (by kernel_rfl)) ?_
       try go_wp2
       go_ret
       exact ⟨by first | rfl | (simp [errW_none, errW_some] <;> rfl) | (simp only [← Y]; first | rfl | (simp [errW_none, errW_some] <;> rfl)) | (simp [*, errW_none, errW_some] <;> rfl), bO HB.out⟩
     ·have au := decide_eq_false c6; clear c6; have H' := aM H; clear H
      try go_wp2
      replace HB := aM (below_drew1 HB.out); have L : 0 ≤ (z : Int) := oT aO; have M : z < (E.length : Int) := oT aO; obtain ⟨D, P, A⟩ := Kd.at_string W.out z L M; have B := A; cases P; replace A := cX HB A; replace L := eq_true L; replace M := eq_true M; refine start_ (n := 22) (S := fun w' => w'.cell? (D.add (z).toNat) = some (.string (rdOf ByteArray.empty E z))) (ds := []) (bl 22 0) (by kernel_rfl) rfl rfl (((HB.out.cell (World.block_lt_of_cell? w _ B)).trans B)) (fun af => ?_); refine with_tabW Fkc.tab4 Fkc.bits4 (fun ae ag => ?_); generalize wr.drew = aG at HB A af ⊢; refine pu_ 0 10 (bl 22 1) ae ?_; refine pu_ 1 11 (bl 22 3) ae ?_; refine pu_ 2 12 (bl 22 7) ae ?_; refine take_ (i := 3) (N := some 13) (v := ?_) (a' := ?_) (bl 22 15) rfl rfl (take_ofW ae.out ag.out (by kernel_rfl)) (fun _ _ _ h => h) (Or.inl ⟨by rfl, ?_⟩) af ?_ ?_; rotate_left
      ·intro w' s0
       go_simp
       with_reducible rfl
      rotate_left
      ·simp only [Act.put, sA, sB, sC, i64_w, i32_w]
       rfl
      refine one_ (i := 4) (N := some 14) (bl 22 31) rfl rfl (one_of ae.out (by kernel_rfl)) (by decide) (fun K hK => ?_); refine gS_ Try.func75 #[.string (rdOf ByteArray.empty E z)] ?_
      with_reducible refine (Fjc.calls k1 (rdOf ByteArray.empty E z) true _ A4.out).mono ?_
      rintro e aH ⟨rfl, hb⟩; refine ⟨_, rfl, ?_⟩; replace HB := hS0 HB hb
      (try clear hb)
      (try clear ah)
      (try clear hk)
      (try clear hi)
      refine hK.out _ _ (((HB.out.cell (World.block_lt_of_cell? w _ B)).trans B)) (fun af => ?_); clear hK K; refine nm_ 14 ?_; refine pu_ 5 15 (bl 22 63) ae ?_; refine pu_ 6 16 (bl 22 127) ae ?_; refine pu_ 7 17 (bl 22 255) ae ?_; refine pu_ 8 18 (bl 22 511) ae ?_; refine pu_ 9 19 (bl 22 1023) ae ?_; refine pn_ 10 20 (bl 22 2047) ae ?_; refine pn_ 11 21 (bl 22 4095) ae ?_; refine pn_ 12 22 (bl 22 8191) ae ?_; refine pn_ 13 23 (bl 22 16383) ae ?_; refine pn_ 14 24 (bl 22 32767) ae ?_; refine pn_ 15 25 (bl 22 65535) ae ?_; refine pn_ 16 26 (bl 22 131071) ae ?_; refine pn_ 17 27 (bl 22 262143) ae ?_; refine pn_ 18 28 (bl 22 524287) ae ?_; refine pn_ 19 29 (bl 22 1048575) ae ?_; refine pu_ 20 30 (bl 22 2097151) ae ?_; refine pu_ 21 31 (bl 22 4194303) ae ?_; refine done_ (done_of ae.out (by kernel_rfl)) ?_
      try go_wp2
      go_roundg k1
      case measure => have := ai.out; omega
      case rel => exact ⟨(wrap64 (z + 1)), sI, H', ⟨by have := ai.out; omega⟩, bT0 HB⟩
    ·replace c5 := Qc c5; subst c5
     rw [if_neg nF] at H; obtain rfl := Qx H
     try go_wp2
     replace HB := aM (below_drew1 HB.out); have L : 0 ≤ (z : Int) := oT aO; have M : z < (E.length : Int) := oT aO; obtain ⟨D, P, A⟩ := Kd.at_string W.out z L M; have B := A; cases P; replace A := cX HB A; replace L := eq_true L; replace M := eq_true M; refine start_ (n := 22) (S := fun w' => w'.cell? (D.add (z).toNat) = some (.string (rdOf ByteArray.empty E z))) (ds := []) (bl 22 0) (by kernel_rfl) rfl rfl (((HB.out.cell (World.block_lt_of_cell? w _ B)).trans B)) (fun af => ?_); refine with_tabW Fkc.tab4 Fkc.bits4 (fun ae ag => ?_); generalize wr.drew = aI at HB A af ⊢; refine pu_ 0 10 (bl 22 1) ae ?_; refine pu_ 1 11 (bl 22 3) ae ?_; refine pu_ 2 12 (bl 22 7) ae ?_; refine take_ (i := 3) (N := some 13) (v := ?_) (a' := ?_) (bl 22 15) rfl rfl (take_ofW ae.out ag.out (by kernel_rfl)) (fun _ _ _ h => h) (Or.inl ⟨by rfl, ?_⟩) af ?_ ?_; rotate_left
     ·intro w' s0
      go_simp
      with_reducible rfl
     rotate_left
     ·simp only [Act.put, sA, sB, sC, i64_w, i32_w]
      rfl
     refine one_ (i := 4) (N := some 14) (bl 22 31) rfl rfl (one_of ae.out (by kernel_rfl)) (by decide) (fun K hK => ?_); refine gS_ Try.func75 #[.string (rdOf ByteArray.empty E z)] ?_
     with_reducible refine (Fjc.calls k1 (rdOf ByteArray.empty E z) false _ A4.out).mono ?_
     rintro e aJ ⟨rfl, hb⟩; refine ⟨_, rfl, ?_⟩; replace HB := hS0 HB hb
     (try clear hb)
     (try clear ah)
     (try clear hk)
     (try clear hi)
     refine hK.out _ _ (((HB.out.cell (World.block_lt_of_cell? w _ B)).trans B)) (fun af => ?_); clear hK K; refine nm_ 14 ?_; refine pu_ 5 15 (bl 22 63) ae ?_; refine pu_ 6 16 (bl 22 127) ae ?_; refine pn_ 7 17 (bl 22 255) ae ?_; refine pn_ 8 18 (bl 22 511) ae ?_; refine pn_ 9 19 (bl 22 1023) ae ?_; refine pn_ 10 20 (bl 22 2047) ae ?_; refine pn_ 11 21 (bl 22 4095) ae ?_; refine pn_ 12 22 (bl 22 8191) ae ?_; refine pn_ 13 23 (bl 22 16383) ae ?_; refine pn_ 14 24 (bl 22 32767) ae ?_; refine pn_ 15 25 (bl 22 65535) ae ?_; refine pn_ 16 26 (bl 22 131071) ae ?_; refine pn_ 17 27 (bl 22 262143) ae ?_; refine pn_ 18 28 (bl 22 524287) ae ?_; refine pn_ 19 29 (bl 22 1048575) ae ?_; refine pn_ 20 30 (bl 22 2097151) ae ?_; refine pu_ 21 31 (bl 22 4194303) ae ?_; refine done_ (done_of ae.out (by kernel_rfl)) ?_
     try go_wp2
     go_ret
     exact ⟨eW, bO HB.out⟩
   ·have aq := decide_eq_false c2; clear c2; obtain rfl := Qx H
    go_wp2
    go_ret
    exact ⟨eW, bO HB.out⟩
end Go.Proofs.Ythgoonohpfoagaa.X
