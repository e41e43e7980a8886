/- Functions of the seat, printed, and that the program's calls come to them; no condition. -/
import Derived.Test.YtninoenmhcbonaaX0
import Derived.Test.YtninoenmhcbonaaX1
namespace Go.Proofs.Ytninoenmhcbonaa.X
open Go.RowKit Go.Proofs.YtninoenmhcbonaaW.PrintWords Go.Proofs.YtninoenmhcbonaaW.PrintLast Go.Proofs.YtninoenmhcbonaaW.PrintMore
attribute [local go_sem] max2_int min2_int max_two min_two max_three min_three max_four min_four
set_option linter.unusedVariables false
set_option linter.unusedSimpArgs false
set_option maxHeartbeats 8000000
set_option maxRecDepth 100000

mutual
def Fma.j2 : Nat → ByteArray → Int → Int → Int → Int → Option (Int × Int × Bool)
 | 0, _, _, _, _, _ => none
 | k + 1, x0, x1, x7, x8, x9 => if (wrap64 ((x0.size : Int) - x1)) < x8 then (some (65533, 1, false)) else (Fma.l0 k x0 x1 x7 x8 x9 1)
def Fma.l0 : Nat → ByteArray → Int → Int → Int → Int → Int → Option (Int × Int × Bool)
 | 0, _, _, _, _, _, _ => none
 | k + 1, x0, x1, x7, x8, x9, x10 => if x10 < x8 then (if 0 ≤ (wrap64 (x1 + x10)) then (if (wrap64 (x1 + x10)) < (x0.size : Int) then (if (wrap64 (bt x0 (wrap64 (x1 + x10)))) < 128 then (some (65533, 1, false)) else (if (wrap64 (bt x0 (wrap64 (x1 + x10)))) > 191 then (some (65533, 1, false)) else (Fma.l0 k x0 x1 (wrap64 ((wrap64 ((wrap64 (x7 * 64)) + (wrap64 (bt x0 (wrap64 (x1 + x10)))))) - 128)) x8 x9 (wrap64 (x10 + 1))))) else (none)) else (none)) else (if x7 < x9 then (some (65533, 1, false)) else (if x7 > 1114111 then (some (65533, 1, false)) else (if x7 ≥ 55296 then (if x7 ≤ 57343 then (some (65533, 1, false)) else (some (x7, x8, true))) else (some (x7, x8, true)))))
def Fma.j0 : Nat → ByteArray → Int → Int → Bool → Option (Int × Int × Bool)
 | 0, _, _, _, _ => none
 | k + 1, x0, x1, x7, x20 => if x20 = true then (Fma.j2 k x0 x1 (wrap64 (x7 - 192)) 2 128) else (if x7 ≥ 224 then (Fma.j1 k x0 x1 x7 (decide (x7 < 240))) else (Fma.j1 k x0 x1 x7 false))
def Fma.j1 : Nat → ByteArray → Int → Int → Bool → Option (Int × Int × Bool)
 | 0, _, _, _, _ => none
 | k + 1, x0, x1, x7, x29 => if x29 = true then (Fma.j2 k x0 x1 (wrap64 (x7 - 224)) 3 2048) else (if x7 ≥ 240 then (if x7 < 245 then (Fma.j2 k x0 x1 (wrap64 (x7 - 240)) 4 65536) else (some (65533, 1, false))) else (some (65533, 1, false)))
end
def Fma.f (k : Nat) (a0 : ByteArray) (a1 : Int) : Option (Int × Int × Bool) := if 0 ≤ a1 then (if a1 < (a0.size : Int) then (if (wrap64 (bt a0 a1)) < 128 then (some (wrap64 (bt a0 a1), 1, true)) else (if (wrap64 (bt a0 a1)) ≥ 194 then (Fma.j0 k a0 a1 (wrap64 (bt a0 a1)) (decide ((wrap64 (bt a0 a1)) < 224))) else (Fma.j0 k a0 a1 (wrap64 (bt a0 a1)) false))) else (none)) else (none)
theorem Fma.mono_l : ∀ k, (∀ y0 y1 y2 y3 y4, LeO (Fma.j2 k y0 y1 y2 y3 y4) (Fma.j2 (k + 1) y0 y1 y2 y3 y4)) ∧ (∀ y0 y1 y2 y3 y4 y5, LeO (Fma.l0 k y0 y1 y2 y3 y4 y5) (Fma.l0 (k + 1) y0 y1 y2 y3 y4 y5)) ∧ (∀ y0 y1 y2 y3, LeO (Fma.j0 k y0 y1 y2 y3) (Fma.j0 (k + 1) y0 y1 y2 y3)) ∧ (∀ y0 y1 y2 y3, LeO (Fma.j1 k y0 y1 y2 y3) (Fma.j1 (k + 1) y0 y1 y2 y3))
 | 0 => ⟨fun _ _ _ _ _ r h => by simp [Fma.j2] at h, fun _ _ _ _ _ _ r h => by simp [Fma.l0] at h, fun _ _ _ _ r h => by simp [Fma.j0] at h, fun _ _ _ _ r h => by simp [Fma.j1] at h⟩
 | k + 1 => by
  obtain ⟨ih0, ih1, ih2, ih3⟩ := Fma.mono_l k; refine ⟨?_, ?_, ?_, ?_⟩
  ·intro y0 y1 y2 y3 y4
   unfold Fma.j2
   repeat' first | (with_reducible first | exact ih0 _ _ _ _ _ | exact ih1 _ _ _ _ _ _ | exact ih2 _ _ _ _ | exact ih3 _ _ _ _ | exact lA | apply lI | refine lB ?_ fun _ => ?_) | exact lN _ | apply lI | refine lB ?_ fun _ => ?_
  ·intro y0 y1 y2 y3 y4 y5
   unfold Fma.l0
   repeat' first | (with_reducible first | exact ih0 _ _ _ _ _ | exact ih1 _ _ _ _ _ _ | exact ih2 _ _ _ _ | exact ih3 _ _ _ _ | exact lA | apply lI | refine lB ?_ fun _ => ?_) | exact lN _ | apply lI | refine lB ?_ fun _ => ?_
  ·intro y0 y1 y2 y3
   unfold Fma.j0
   repeat' first | (with_reducible first | exact ih0 _ _ _ _ _ | exact ih1 _ _ _ _ _ _ | exact ih2 _ _ _ _ | exact ih3 _ _ _ _ | exact lA | apply lI | refine lB ?_ fun _ => ?_) | exact lN _ | apply lI | refine lB ?_ fun _ => ?_
  ·intro y0 y1 y2 y3
   unfold Fma.j1
   repeat' first | (with_reducible first | exact ih0 _ _ _ _ _ | exact ih1 _ _ _ _ _ _ | exact ih2 _ _ _ _ | exact ih3 _ _ _ _ | exact lA | apply lI | refine lB ?_ fun _ => ?_) | exact lN _ | apply lI | refine lB ?_ fun _ => ?_
theorem Fma.mono : ∀ a0 a1 k, LeO (Fma.f k a0 a1) (Fma.f (k + 1) a0 a1) := by
 intro a0 a1 k; obtain ⟨ih0, ih1, ih2, ih3⟩ := Fma.mono_l k
 unfold Fma.f
 repeat' first | (with_reducible first | exact ih0 _ _ _ _ _ | exact ih1 _ _ _ _ _ _ | exact ih2 _ _ _ _ | exact ih3 _ _ _ _ | exact lA | apply lI | refine lB ?_ fun _ => ?_) | exact lN _ | apply lI | refine lB ?_ fun _ => ?_
theorem Fma.calls (k : Nat) (z : ByteArray) (B : Int) (r1 : Int) (r2 : Int) (r3 : Bool) (w : World) (h : Fma.f k z B = some (r1, r2, r3)) :
  Calls Try.prog 95 #[.string z, .int .i64 B] w fun e w' => e = .returned (.tuple #[.int .i64 r1, .int .i64 r2, .bool r3]) ∧ Drawn0 w w' := by
 rw [Fma.f] at h; have H := h; clear h
 apply iN H; clear H; intro c3 H; have aS := dT c3; clear c3
 apply iN H; clear H; intro c4 H; have aT := dT c4; clear c4; have ap := aM H; clear H; have p5 : 0 ≤ (B : Int) := oT aO; have q5 : B < (z.size : Int) := oT aO; have aX := bt_at z B; replace p5 := eq_true p5; replace q5 := eq_true q5
 go_enter Try.func95, Try.ntmps95
 go_upto_block 0 with (fail)
 go_cut [7, 8, 9] (fun v7 v8 v9 wc => ∃ (kq : Nat) (ae : Int) (I : Int) (N : Int), v7 = .int .i64 ae ∧ v8 = .int .i64 I ∧ v9 = .int .i64 N ∧ Aside0 (Fma.j2 kq z B ae I N = some (r1, r2, r3)) ∧ Aside0 (kq ≤ k) ∧ Drawn0 w wc)
 case first =>
  have H := ap.out; clear ap
  apply iB H <;> clear H <;> intro c7 H
  ·have O := dT c7; clear c7
   (first | rw [O] | (simp only [i64_w, i32_w]; rw [O]) | skip)
   obtain ⟨rfl, rfl, rfl⟩ := pE3 H
   go_wp2
   go_ret3
   exact ⟨eVl, dRw⟩
  ·have O := decide_eq_false c7; clear c7
   (first | rw [O] | (simp only [i64_w, i32_w]; rw [O]) | skip)
   have aq := aM H; clear H
   go_upto_region 6 with (fail)
   go_cut [20] (fun aK wc => ∃ (kq : Nat) (M : Bool), aK = .bool M ∧ Aside0 (Fma.j0 kq z B (wrap64 (bt z B)) M = some (r1, r2, r3)) ∧ Aside0 (kq ≤ k) ∧ Drawn0 w wc)
   case first =>
    have H := aq.out; clear aq
    apply iB H <;> clear H <;> intro c9 H
    ·have P := dT c9; clear c9
     (first | rw [P] | (simp only [i64_w, i32_w]; rw [P]) | skip)
     have H' := aM H; clear H
     go_wp2
     go_meet
     case rel => exact ⟨_, (decide ((wrap64 (bt z B)) < 224)), sI, H', lE, dRw⟩
    ·have P := decide_eq_false c9; clear c9
     (first | rw [P] | (simp only [i64_w, i32_w]; rw [P]) | skip)
     have H' := aM H; clear H
     go_wp2
     go_meet
     case rel => exact ⟨_, (false), sI, H', lE, dRw⟩
   case rest =>
    clear aq
    obtain ⟨kq, M, rfl, HA, HJ7, ⟨mc7, rfl⟩⟩ := hcut; cases kq with
    | zero => exact absurd HA.out (by simp [Fma.j0])
    | succ aL =>
     have H := HA.out; clear HA; simp only [Fma.j0] at H
     by_cases ag : M = true
     ·subst ag
      rw [if_pos rfl] at H; have H' := aM H; clear H
      go_wp2
      go_meet
      case rel => exact ⟨_, (wrap64 ((wrap64 (bt z B)) - 192)), (2), (128), sI, sI, sI, H', ⟨by have := HJ7.out; first | omega | exact Nat.le_refl _⟩, dRw⟩
     ·replace ag := Bool.eq_false_iff.mpr ag; subst ag
      rw [if_neg nF] at H; have af := aM H; clear H
      go_upto_region 8 with (fail)
      go_cut [29] (fun aN wc => ∃ (kq : Nat) (F : Bool), aN = .bool F ∧ Aside0 (Fma.j1 kq z B (wrap64 (bt z B)) F = some (r1, r2, r3)) ∧ Aside0 (kq ≤ aL) ∧ Drawn0 w wc)
      case first =>
       have H := af.out; clear af
       apply iB H <;> clear H <;> intro Q H
       ·have G := dT Q; clear Q
        (first | rw [G] | (simp only [i64_w, i32_w]; rw [G]) | skip)
        have H' := aM H; clear H
        go_wp2
        go_meet
        case rel => exact ⟨_, (decide ((wrap64 (bt z B)) < 240)), sI, H', ⟨by have := HJ7.out; first | omega | exact Nat.le_refl _⟩, dRw⟩
       ·have G := decide_eq_false Q; clear Q
        (first | rw [G] | (simp only [i64_w, i32_w]; rw [G]) | skip)
        have H' := aM H; clear H
        go_wp2
        go_meet
        case rel => exact ⟨_, (false), sI, H', ⟨by have := HJ7.out; first | omega | exact Nat.le_refl _⟩, dRw⟩
      case rest =>
       clear af
       obtain ⟨kq, F, rfl, HA, HJ10, ⟨mc10, rfl⟩⟩ := hcut; cases kq with
       | zero => exact absurd HA.out (by simp [Fma.j1])
       | succ aW =>
        have H := HA.out; clear HA; simp only [Fma.j1] at H
        by_cases ah : F = true
        ·subst ah
         rw [if_pos rfl] at H; have H' := aM H; clear H
         go_wp2
         go_meet
         case rel => exact ⟨_, (wrap64 ((wrap64 (bt z B)) - 224)), (3), (2048), sI, sI, sI, H', ⟨by have := HJ7.out; have := HJ10.out; first | omega | exact Nat.le_refl _⟩, dRw⟩
        ·replace ah := Bool.eq_false_iff.mpr ah; subst ah
         rw [if_neg nF] at H
         apply iB H <;> clear H <;> intro R H
         ·have aw := dT R; clear R
          apply iB H <;> clear H <;> intro U H
          ·have ax := dT U; clear U; have H' := aM H; clear H
           go_wp2
           go_meet
           case rel => exact ⟨_, (wrap64 ((wrap64 (bt z B)) - 240)), (4), (65536), sI, sI, sI, H', ⟨by have := HJ7.out; have := HJ10.out; first | omega | exact Nat.le_refl _⟩, dRw⟩
          ·have ax := decide_eq_false U; clear U; obtain ⟨rfl, rfl, rfl⟩ := pE3 H
           go_wp2
           go_ret3
           exact ⟨eVl, dRw⟩
         ·have aw := decide_eq_false R; clear R; obtain ⟨rfl, rfl, rfl⟩ := pE3 H
          go_wp2
          go_ret3
          exact ⟨eVl, dRw⟩
 case rest =>
  clear ap
  obtain ⟨kq, ae, I, N, rfl, rfl, rfl, HA, HJ5, ⟨mc5, rfl⟩⟩ := hcut; cases kq with
  | zero => exact absurd HA.out (by simp [Fma.j2])
  | succ aG =>
   have H := HA.out; clear HA; simp only [Fma.j2] at H
   apply iB H <;> clear H <;> intro V H
   ·have ay := dT V; clear V; obtain ⟨rfl, rfl, rfl⟩ := pE3 H
    go_wp2
    go_ret3
    exact ⟨eVl, dRw⟩
   ·have ay := decide_eq_false V; clear V; have H' := aM H; clear H
    go_wp2
    go_loopg [7, 10] aG (fun kq v7 aP w' => ∃ (D : Int) (C : Int), v7 = .int .i64 D ∧ aP = .int .i64 C ∧ Aside0 (Fma.l0 kq z B D I N C = some (r1, r2, r3)) ∧ Aside0 (kq ≤ aG) ∧ Drawn0 w w')
    case atStart => exact ⟨(ae), (1), sI, sI, H', ⟨Nat.le_refl _⟩, dRw⟩
    case round =>
     clear H'
     obtain ⟨D, C, rfl, rfl, HA, am, ⟨m2, rfl⟩⟩ := hrel; cases gk with
     | zero => exact absurd HA.out (by simp [Fma.l0])
     | succ k2 =>
      have H := HA.out; clear HA; simp only [Fma.l0] at H
      apply iB H <;> clear H <;> intro W H
      ·have az := dT W; clear W; obtain ⟨A, E⟩ : ∃ j_ : Int, (wrap64 (B + C)) = j_ := ⟨_, rfl⟩
       first | rw [E] at H | simp only [E] at H
       have hji18w : (IntKind.i64.wrap (B + C)) = A := (i64_w _).trans E
       apply iN H; clear H; intro ai H; have aQ := dT ai; clear ai
       apply iN H; clear H; intro aj H; have aR := dT aj; clear aj
       apply iB H <;> clear H <;> intro Y H
       ·have aA := dT Y; clear Y; obtain ⟨rfl, rfl, rfl⟩ := pE3 H; have J : 0 ≤ ((A) : Int) := oT aO; have L : (A) < (z.size : Int) := oT aO; have ar := bt_at z (A); replace J := eq_true J; replace L := eq_true L
        go_wp2
        go_ret3
        exact ⟨by first | rfl | (simp; done) | (simp only [← E] <;> (first | rfl | simp)) | (simp [*]; done), dRw⟩
       ·have aA := decide_eq_false Y; clear Y
        apply iB H <;> clear H <;> intro Z H
        ·have aB := dT Z; clear Z; obtain ⟨rfl, rfl, rfl⟩ := pE3 H; have J : 0 ≤ ((A) : Int) := oT aO; have L : (A) < (z.size : Int) := oT aO; have ar := bt_at z (A); replace J := eq_true J; replace L := eq_true L
         go_wp2
         go_ret3
         exact ⟨by first | rfl | (simp; done) | (simp only [← E] <;> (first | rfl | simp)) | (simp [*]; done), dRw⟩
        ·have aB := decide_eq_false Z; clear Z; have H' := aM H; clear H; have J : 0 ≤ ((A) : Int) := oT aO; have L : (A) < (z.size : Int) := oT aO; have ar := bt_at z (A); replace J := eq_true J; replace L := eq_true L
         go_wp2
         go_roundg k2
         case measure => have := HJ5.out; have := am.out; omega
         case rel => exact ⟨(wrap64 ((wrap64 ((wrap64 (D * 64)) + (wrap64 (bt z (A))))) - 128)), (wrap64 (C + 1)), (by first | rfl | (simp; done) | (simp only [← E] <;> (first | rfl | simp)) | (simp [*]; done)), sI, H', ⟨by have := HJ5.out; have := am.out; omega⟩, dRw⟩
      ·have az := decide_eq_false W; clear W
       apply iB H <;> clear H <;> intro aa H
       ·have aC := dT aa; clear aa; obtain ⟨rfl, rfl, rfl⟩ := pE3 H
        go_wp2
        go_ret3
        exact ⟨eVl, dRw⟩
       ·have aC := decide_eq_false aa; clear aa
        apply iB H <;> clear H <;> intro ab H
        ·have aD := dT ab; clear ab; obtain ⟨rfl, rfl, rfl⟩ := pE3 H
         go_wp2
         go_ret3
         exact ⟨eVl, dRw⟩
        ·have aD := decide_eq_false ab; clear ab
         apply iB H <;> clear H <;> intro ac H
         ·have aE := dT ac; clear ac
          apply iB H <;> clear H <;> intro ad H
          ·have aF := dT ad; clear ad; obtain ⟨rfl, rfl, rfl⟩ := pE3 H
           go_wp2
           go_ret3
           exact ⟨eVl, dRw⟩
          ·have aF := decide_eq_false ad; clear ad; obtain ⟨rfl, rfl, rfl⟩ := pE3 H
           go_wp2
           go_ret3
           exact ⟨eVl, dRw⟩
         ·have aE := decide_eq_false ac; clear ac; obtain ⟨rfl, rfl, rfl⟩ := pE3 H
          go_wp2
          go_ret3
          exact ⟨eVl, dRw⟩
def Fnc.l0 : Nat → Int → List Int → Int → Option (Bool)
 | 0, _, _, _ => none
 | k + 1, x0, x1, x5 => if (wrap64 (x5 + 1)) < (x1.length : Int) then (if 0 ≤ x5 then (if x5 < (x1.length : Int) then (if x0 ≥ (rd x1 x5) then (if 0 ≤ (wrap64 (x5 + 1)) then (if x0 ≤ (rd x1 (wrap64 (x5 + 1))) then (some true) else (Fnc.l0 k x0 x1 (wrap64 (x5 + 2)))) else (none)) else (Fnc.l0 k x0 x1 (wrap64 (x5 + 2)))) else (none)) else (none)) else (some false)
def Fnc.f (k : Nat) (a0 : Int) (l1 : List Int) : Option (Bool) := Fnc.l0 k a0 l1 0
theorem Fnc.mono_l : ∀ k, (∀ y0 y1 y2, LeO (Fnc.l0 k y0 y1 y2) (Fnc.l0 (k + 1) y0 y1 y2))
 | 0 => fun _ _ _ r h => by simp [Fnc.l0] at h
 | k + 1 => by
  have ih0 := Fnc.mono_l k
  ·intro y0 y1 y2
   unfold Fnc.l0
   repeat' first | (with_reducible first | exact ih0 _ _ _ | exact lA | apply lI | refine lB ?_ fun _ => ?_) | exact lN _ | apply lI | refine lB ?_ fun _ => ?_
theorem Fnc.mono : ∀ a0 a1 k, LeO (Fnc.f k a0 a1) (Fnc.f (k + 1) a0 a1) := by
 intro a0 a1 k; have ih0 := Fnc.mono_l k
 unfold Fnc.f
 repeat' first | (with_reducible first | exact ih0 _ _ _ | exact lA | apply lI | refine lB ?_ fun _ => ?_) | exact lN _ | apply lI | refine lB ?_ fun _ => ?_
theorem Fnc.calls (k : Nat) (Z : Int) (A1 : Option Addr) (c1 : Nat) (D : List Int) (r : Bool) (w : World) (ae : Kd.C (Kd.int .i64) w A1 D.length D) (af : D.length ≤ c1) (h : Fnc.f k Z D = some r) :
  Calls Try.prog 110 #[.int .i64 Z, .slice A1 D.length c1] w fun e w' => e = .returned (.bool r) ∧ Drawn0 w w' := by
 have Q := aM ae; have ao := aM af; clear ae af; rw [Fnc.f] at h; have H := h; clear h; have H' := aM H; clear H
 go_enter Try.func110, Try.ntmps110
 go_wp2
 go_loopg [5] k (fun kq v5 w' => ∃ (z : Int), v5 = .int .i64 z ∧ Aside0 (Fnc.l0 kq Z D z = some r) ∧ Aside0 (kq ≤ k) ∧ Drawn0 w w')
 case atStart => exact ⟨(0), sI, H', ⟨Nat.le_refl _⟩, dRw⟩
 case round =>
  clear H'
  obtain ⟨z, rfl, HA, ab, ⟨m1, rfl⟩⟩ := hrel; cases gk with
  | zero => exact absurd HA.out (by simp [Fnc.l0])
  | succ k1 =>
   have H := HA.out; clear HA; simp only [Fnc.l0] at H
   apply iB H <;> clear H <;> intro U H
   ·have aa := dT U; clear U
    apply iN H; clear H; intro c4 H; have al := dT c4; clear c4
    apply iN H; clear H; intro c5 H; have am := dT c5; clear c5
    apply iB H <;> clear H <;> intro V H
    ·have ag := dT V; clear V; obtain ⟨G, J⟩ : ∃ j_ : Int, (wrap64 (z + 1)) = j_ := ⟨_, rfl⟩
     first | rw [J] at H | simp only [J] at H
     (try rw [J] at aa)
     have hji7w : (IntKind.i64.wrap (z + 1)) = G := (i64_w _).trans J
     apply iN H; clear H; intro c8 H; have an := dT c8; clear c8
     apply iB H <;> clear H <;> intro W H
     ·have ah := dT W; clear W; obtain rfl := Option.some.inj H; obtain ⟨⟨I, L, O⟩, A, B⟩ := xAt (Kd.at_int Q.out) z; cases L; obtain ⟨⟨P, R, Y⟩, E, F⟩ := xAt (Kd.at_int Q.out) (G); obtain rfl := sJJ R
      go_wp2
      go_ret
      exact ⟨by first | rfl | (simp; done) | (simp only [← J] <;> (first | rfl | simp)) | (simp [*]; done), dRw⟩
     ·have ah := decide_eq_false W; clear W; have H' := aM H; clear H; obtain ⟨⟨I, L, O⟩, A, B⟩ := xAt (Kd.at_int Q.out) z; cases L; obtain ⟨⟨P, R, Y⟩, E, F⟩ := xAt (Kd.at_int Q.out) (G); obtain rfl := sJJ R
      go_wp2
      go_roundg k1
      case measure => have := ab.out; omega
      case rel => exact ⟨(wrap64 (z + 2)), sI, H', ⟨by have := ab.out; omega⟩, dRw⟩
    ·have ag := decide_eq_false V; clear V; have H' := aM H; clear H; obtain ⟨⟨I, L, O⟩, A, B⟩ := xAt (Kd.at_int Q.out) z; cases L
     go_wp2
     go_roundg k1
     case measure => have := ab.out; omega
     case rel => exact ⟨(wrap64 (z + 2)), sI, H', ⟨by have := ab.out; omega⟩, dRw⟩
   ·have aa := decide_eq_false U; clear U; obtain rfl := Option.some.inj H
    go_wp2
    go_ret
    exact ⟨eVl, dRw⟩
def Fnb.f (k : Nat) (a0 : Int) : Option (Bool) := (Fnc.f k a0 (([65, 90, 97, 122, 95, 95, 913, 929, 931, 937, 945, 969] : List Int))).bind fun t288 => (some t288)
theorem Fnb.mono : ∀ a0 k, LeO (Fnb.f k a0) (Fnb.f (k + 1) a0) := by
 intro a0 k
 unfold Fnb.f
 repeat' first | (with_reducible first | exact Fnc.mono _ _ _ | exact lA | apply lI | refine lB ?_ fun _ => ?_) | exact lN _ | apply lI | refine lB ?_ fun _ => ?_
theorem Fnb.calls (k : Nat) (E : Int) (r : Bool) (w : World) (h : Fnb.f k E = some r) :
  Calls Try.prog 96 #[.int .i64 E] w fun e w' => e = .returned (.bool r) ∧ Below w.heap.size w w' := by
 have HB := aM (Below.refl w.heap.size w); rw [Fnb.f] at h; have H := h; clear h; obtain ⟨D, z⟩ : ∃ y_ : List Int, y_ = (([65, 90, 97, 122, 95, 95, 913, 929, 931, 937, 945, 969] : List Int)) := ⟨_, rfl⟩
 first | replace H := rI z H | rw [← z] at H
 have F := aM z; clear z; apply bSx H; clear H; intro I P H; obtain rfl := Option.some.inj H
 go_enter Try.func96, Try.ntmps96
 go_wp2_with (first | ((with_reducible refine gate_dst (N := 4) rfl ?_); refine Kd.R_lit (Kd.int .i64) _ 3 ?hg (N := 4) ?hd (xs := ([65, 90, 97, 122, 95, 95, 913, 929, 931, 937, 945, 969] : List Int)) (inner := [.int .i64 65, .int .i64 90, .int .i64 97, .int .i64 122, .int .i64 95, .int .i64 95, .int .i64 913, .int .i64 929, .int .i64 931, .int .i64 937, .int .i64 945, .int .i64 969]) (ok := fun _ => True) (okp := fun _ => True) ?hr ?hp (fun _ hk => hk) trivial (Below.refl _ _) (Nat.le_refl _) (by simp) ?_; (case hd => rfl); (case hg => rfl); (case hr => first | (go_simp; done) | (go_simp; rfl)); (case hp => exact (Reps.one (show Kd.M (Kd.int .i64) _ _ _ 65 [.int .i64 65] from rfl) (Reps.one (show Kd.M (Kd.int .i64) _ _ _ 90 [.int .i64 90] from rfl) (Reps.one (show Kd.M (Kd.int .i64) _ _ _ 97 [.int .i64 97] from rfl) (Reps.one (show Kd.M (Kd.int .i64) _ _ _ 122 [.int .i64 122] from rfl) (Reps.one (show Kd.M (Kd.int .i64) _ _ _ 95 [.int .i64 95] from rfl) (Reps.one (show Kd.M (Kd.int .i64) _ _ _ 95 [.int .i64 95] from rfl) (Reps.one (show Kd.M (Kd.int .i64) _ _ _ 913 [.int .i64 913] from rfl) (Reps.one (show Kd.M (Kd.int .i64) _ _ _ 929 [.int .i64 929] from rfl) (Reps.one (show Kd.M (Kd.int .i64) _ _ _ 931 [.int .i64 931] from rfl) (Reps.one (show Kd.M (Kd.int .i64) _ _ _ 937 [.int .i64 937] from rfl) (Reps.one (show Kd.M (Kd.int .i64) _ _ _ 945 [.int .i64 945] from rfl) (Reps.one (show Kd.M (Kd.int .i64) _ _ _ 969 [.int .i64 969] from rfl) (Reps.none _ _)))))))))))))); intro Q R B hb hg_ hnew_; clear hg_ hnew_; replace B := nW F B; have A := rW B (bP0 HB); replace HB := hS0 HB hb; clear hb B; obtain ⟨J, L, rfl⟩ := sL A) | ((with_reducible refine gate_callee (f := 110) rfl ?_); refine gL_ (some 5) Try.func110 #[.int .i64 E, .slice J D.length L] ?_; (with_reducible refine (Fnc.calls k E _ _ D I _ ?s1 (rR A).2.1 P.out).mono ?_); (case s1 => exact cO (rR A).2.2); rintro e w' ⟨rfl, ⟨nd, rfl⟩⟩; refine ⟨_, rfl, ?_⟩))
 go_ret
 exact ⟨eW, bO HB.out⟩
def Fmc.f (k : Nat) (a0 : Int) : Option (Bool) := (Fnb.f k a0).bind fun t289 => (if t289 = true then (some true) else ((Fnc.f k a0 (([48, 57, 8242, 8242, 8320, 8329] : List Int))).bind fun t293 => (some t293)))
theorem Fmc.mono : ∀ a0 k, LeO (Fmc.f k a0) (Fmc.f (k + 1) a0) := by
 intro a0 k
 unfold Fmc.f
 repeat' first | (with_reducible first | exact Fnb.mono _ _ | exact Fnc.mono _ _ _ | exact lA | apply lI | refine lB ?_ fun _ => ?_) | exact lN _ | apply lI | refine lB ?_ fun _ => ?_
theorem Fmc.calls (k : Nat) (B : Int) (r : Bool) (w : World) (h : Fmc.f k B = some r) :
  Calls Try.prog 97 #[.int .i64 B] w fun e w' => e = .returned (.bool r) ∧ Below w.heap.size w w' := by
 have HB := aM (Below.refl w.heap.size w); rw [Fmc.f] at h; have H := h; clear h; apply bSx H; clear H; intro J P H
 by_cases E : J = true
 ·subst E
  rw [if_pos rfl] at H; obtain rfl := Option.some.inj H
  go_enter Try.func97, Try.ntmps97
  go_wp2_with (first | ((with_reducible refine gate_callee (f := 96) rfl ?_); refine gL_ (some 4) Try.func96 #[.int .i64 B] ?_; (with_reducible refine (Fnb.calls k B true _ P.out).mono ?_); rintro e Y ⟨rfl, hb⟩; refine ⟨_, rfl, ?_⟩; replace HB := hS0 HB hb))
  go_ret
  exact ⟨eW, bO HB.out⟩
 ·replace E := Bool.eq_false_iff.mpr E; subst E
  rw [if_neg nF] at H; obtain ⟨L, z⟩ : ∃ y_ : List Int, y_ = (([48, 57, 8242, 8242, 8320, 8329] : List Int)) := ⟨_, rfl⟩
  first | replace H := rI z H | rw [← z] at H
  have F := aM z; clear z; apply bSx H; clear H; intro O R H; obtain rfl := Option.some.inj H
  go_enter Try.func97, Try.ntmps97
  go_wp2_with (first | ((with_reducible refine gate_callee (f := 96) rfl ?_); refine gL_ (some 4) Try.func96 #[.int .i64 B] ?_; (with_reducible refine (Fnb.calls k B false _ P.out).mono ?_); rintro e Z ⟨rfl, hb⟩; refine ⟨_, rfl, ?_⟩; replace HB := hS0 HB hb) | ((with_reducible refine gate_dst (N := 7) rfl ?_); (try (refine gate_guard (by rfl) ?_; dsimp only)); refine Kd.R_lit (Kd.int .i64) _ 3 ?hg (N := 7) ?hd (xs := ([48, 57, 8242, 8242, 8320, 8329] : List Int)) (inner := [.int .i64 48, .int .i64 57, .int .i64 8242, .int .i64 8242, .int .i64 8320, .int .i64 8329]) (ok := fun _ => True) (okp := fun _ => True) ?hr ?hp (fun _ hk => hk) trivial (Below.refl _ _) (Nat.le_refl _) (by simp) ?_; (case hd => rfl); (case hg => rfl); (case hr => first | (go_simp; done) | (go_simp; rfl)); (case hp => exact (Reps.one (show Kd.M (Kd.int .i64) _ _ _ 48 [.int .i64 48] from rfl) (Reps.one (show Kd.M (Kd.int .i64) _ _ _ 57 [.int .i64 57] from rfl) (Reps.one (show Kd.M (Kd.int .i64) _ _ _ 8242 [.int .i64 8242] from rfl) (Reps.one (show Kd.M (Kd.int .i64) _ _ _ 8242 [.int .i64 8242] from rfl) (Reps.one (show Kd.M (Kd.int .i64) _ _ _ 8320 [.int .i64 8320] from rfl) (Reps.one (show Kd.M (Kd.int .i64) _ _ _ 8329 [.int .i64 8329] from rfl) (Reps.none _ _)))))))); intro U w7 D hb hg_ hnew_; clear hg_ hnew_; replace D := nW F D; have A := rW D (bP0 HB); replace HB := hS0 HB hb; clear hb D; obtain ⟨V, W, rfl⟩ := sL A) | (go_at_call 110; (with_reducible refine (Fnc.calls k B _ _ L O _ ?s1 (rR A).2.1 R.out).mono ?_); (case s1 => exact cO (rR A).2.2); rintro e w' ⟨rfl, ⟨nd, rfl⟩⟩))
  go_ret
  exact ⟨eW, bO HB.out⟩
def Fmb.l0 : Nat → ByteArray → List ByteArray → Int → Option (Bool)
 | 0, _, _, _ => none
 | k + 1, x0, x3, x4 => if x4 < (x3.length : Int) then (if 0 ≤ x4 then (if (rdOf ByteArray.empty x3 x4).toList = x0.toList then (some true) else (Fmb.l0 k x0 x3 (wrap64 (x4 + 1)))) else (none)) else (some false)
def Fmb.f (k : Nat) (a0 : ByteArray) : Option (Bool) := Fmb.l0 k a0 (([(⟨#[97, 110, 100]⟩ : ByteArray), (⟨#[111, 114]⟩ : ByteArray), (⟨#[110, 111, 116]⟩ : ByteArray), (⟨#[101, 120]⟩ : ByteArray), (⟨#[97, 108, 108]⟩ : ByteArray), (⟨#[109, 111, 100]⟩ : ByteArray), (⟨#[116, 114, 117, 101]⟩ : ByteArray), (⟨#[102, 97, 108, 115, 101]⟩ : ByteArray)] : List ByteArray)) 0
theorem Fmb.mono_l : ∀ k, (∀ y0 y1 y2, LeO (Fmb.l0 k y0 y1 y2) (Fmb.l0 (k + 1) y0 y1 y2))
 | 0 => fun _ _ _ r h => by simp [Fmb.l0] at h
 | k + 1 => by
  have ih0 := Fmb.mono_l k
  ·intro y0 y1 y2
   unfold Fmb.l0
   repeat' first | (with_reducible first | exact ih0 _ _ _ | exact lA | apply lI | refine lB ?_ fun _ => ?_) | exact lN _ | apply lI | refine lB ?_ fun _ => ?_
theorem Fmb.mono : ∀ a0 k, LeO (Fmb.f k a0) (Fmb.f (k + 1) a0) := by
 intro a0 k; have ih0 := Fmb.mono_l k
 unfold Fmb.f
 repeat' first | (with_reducible first | exact ih0 _ _ _ | exact lA | apply lI | refine lB ?_ fun _ => ?_) | exact lN _ | apply lI | refine lB ?_ fun _ => ?_
theorem Fmb.calls (k : Nat) (O : ByteArray) (r : Bool) (w : World) (h : Fmb.f k O = some r) :
  Calls Try.prog 98 #[.string O] w fun e w' => e = .returned (.bool r) ∧ Below w.heap.size w w' := by
 have HB := aM (Below.refl w.heap.size w); rw [Fmb.f] at h; have H := h; clear h; obtain ⟨C, E⟩ : ∃ y_ : List ByteArray, y_ = (([(⟨#[97, 110, 100]⟩ : ByteArray), (⟨#[111, 114]⟩ : ByteArray), (⟨#[110, 111, 116]⟩ : ByteArray), (⟨#[101, 120]⟩ : ByteArray), (⟨#[97, 108, 108]⟩ : ByteArray), (⟨#[109, 111, 100]⟩ : ByteArray), (⟨#[116, 114, 117, 101]⟩ : ByteArray), (⟨#[102, 97, 108, 115, 101]⟩ : ByteArray)] : List ByteArray)) := ⟨_, rfl⟩
 first | replace H := rI E H | rw [← E] at H
 have P := aM E; clear E; have R := aM H; clear H
 go_enter Try.func98, Try.ntmps98
 go_wp2_with (first | ((with_reducible refine gate_dst (N := 5) rfl ?_); refine Kd.R_lit Kd.string _ 9 ?hg (N := 5) ?hd (xs := ([(⟨#[97, 110, 100]⟩ : ByteArray), (⟨#[111, 114]⟩ : ByteArray), (⟨#[110, 111, 116]⟩ : ByteArray), (⟨#[101, 120]⟩ : ByteArray), (⟨#[97, 108, 108]⟩ : ByteArray), (⟨#[109, 111, 100]⟩ : ByteArray), (⟨#[116, 114, 117, 101]⟩ : ByteArray), (⟨#[102, 97, 108, 115, 101]⟩ : ByteArray)] : List ByteArray)) (inner := [.string (⟨#[97, 110, 100]⟩ : ByteArray), .string (⟨#[111, 114]⟩ : ByteArray), .string (⟨#[110, 111, 116]⟩ : ByteArray), .string (⟨#[101, 120]⟩ : ByteArray), .string (⟨#[97, 108, 108]⟩ : ByteArray), .string (⟨#[109, 111, 100]⟩ : ByteArray), .string (⟨#[116, 114, 117, 101]⟩ : ByteArray), .string (⟨#[102, 97, 108, 115, 101]⟩ : ByteArray)]) (ok := fun _ => True) (okp := fun _ => True) ?hr ?hp (fun _ hk => hk) trivial (Below.refl _ _) (Nat.le_refl _) (by simp) ?_; (case hd => rfl); (case hg => rfl); (case hr => first | (go_simp; done) | (go_simp; rfl)); (case hp => exact (Reps.one (show Kd.M Kd.string _ _ _ (⟨#[97, 110, 100]⟩ : ByteArray) [.string (⟨#[97, 110, 100]⟩ : ByteArray)] from rfl) (Reps.one (show Kd.M Kd.string _ _ _ (⟨#[111, 114]⟩ : ByteArray) [.string (⟨#[111, 114]⟩ : ByteArray)] from rfl) (Reps.one (show Kd.M Kd.string _ _ _ (⟨#[110, 111, 116]⟩ : ByteArray) [.string (⟨#[110, 111, 116]⟩ : ByteArray)] from rfl) (Reps.one (show Kd.M Kd.string _ _ _ (⟨#[101, 120]⟩ : ByteArray) [.string (⟨#[101, 120]⟩ : ByteArray)] from rfl) (Reps.one (show Kd.M Kd.string _ _ _ (⟨#[97, 108, 108]⟩ : ByteArray) [.string (⟨#[97, 108, 108]⟩ : ByteArray)] from rfl) (Reps.one (show Kd.M Kd.string _ _ _ (⟨#[109, 111, 100]⟩ : ByteArray) [.string (⟨#[109, 111, 100]⟩ : ByteArray)] from rfl) (Reps.one (show Kd.M Kd.string _ _ _ (⟨#[116, 114, 117, 101]⟩ : ByteArray) [.string (⟨#[116, 114, 117, 101]⟩ : ByteArray)] from rfl) (Reps.one (show Kd.M Kd.string _ _ _ (⟨#[102, 97, 108, 115, 101]⟩ : ByteArray) [.string (⟨#[102, 97, 108, 115, 101]⟩ : ByteArray)] from rfl) (Reps.none _ _)))))))))); intro W w2 G hb hg_ hnew_; clear hg_ hnew_; replace G := nW P G; have Q := rW G (bP0 HB); replace HB := hS0 HB hb; clear hb G))
 go_loopg [4] k (fun kq v4 w' => ∃ (z : Int), v4 = .int .i64 z ∧ Aside0 (Fmb.l0 kq O C z = some r) ∧ Aside0 (kq ≤ k) ∧ RA Kd.string 9 w' w W C ∧ BA w w')
 case atStart => exact ⟨(0), sI, R, ⟨Nat.le_refl _⟩, rQ Q, bT0 HB⟩
 case round =>
  clear R
  obtain ⟨z, rfl, HA, am, D, HB⟩ := hrel; cases gk with
  | zero => exact absurd HA.out (by simp [Fmb.l0])
  | succ k1 =>
   have H := HA.out; clear HA; simp only [Fmb.l0] at H
   apply iB H <;> clear H <;> intro I H
   ·have Y := dT I; clear I
    apply iN H; clear H; intro U H; have af := dT U; clear U
    apply iB H <;> clear H <;> intro L H
    ·obtain ⟨Z, aa⟩ := bq L; clear L; obtain rfl := Option.some.inj H; obtain ⟨ag, ah, rfl⟩ := sL D; obtain ⟨⟨V, F, J⟩, A, B⟩ := xAt (Kd.at_string (rR D).2.2) z; cases F
     go_wp2
     go_ret
     exact ⟨eW, bO HB.out⟩
    ·obtain ⟨Z, aa⟩ := bn L; have R := aM H; clear H; obtain ⟨ai, aj, rfl⟩ := sL D; obtain ⟨⟨V, F, J⟩, A, B⟩ := xAt (Kd.at_string (rR D).2.2) z; cases F
     go_wp2
     go_roundg k1
     case measure => have := am.out; omega
     case rel => exact ⟨(wrap64 (z + 1)), sI, R, ⟨by have := am.out; omega⟩, rQ D, bT0 HB⟩
   ·have Y := decide_eq_false I; clear I; obtain rfl := Option.some.inj H; obtain ⟨ak, al, rfl⟩ := sL D
    go_wp2
    go_ret
    exact ⟨eW, bO HB.out⟩
def Flc.l0 : Nat → ByteArray → Int → Int → Option (Bool)
 | 0, _, _, _ => none
 | k + 1, x0, x3, x4 => if x4 < (x0.size : Int) then ((Fma.f k x0 x4).bind fun bt299 => (if bt299.2.2 = true then (if x3 = 0 then ((Fnb.f k bt299.1).bind fun t302 => (if t302 = true then ((Fmc.f k bt299.1).bind fun t303 => (if t303 = true then (Flc.l0 k x0 (wrap64 (x3 + 1)) (wrap64 (x4 + bt299.2.1))) else (some false))) else (some false))) else ((Fmc.f k bt299.1).bind fun t304 => (if t304 = true then (Flc.l0 k x0 (wrap64 (x3 + 1)) (wrap64 (x4 + bt299.2.1))) else (some false)))) else (some false))) else (if x3 ≥ 1 then (if x3 ≤ 16 then ((Fmb.f k x0).bind fun t298 => (some (!t298))) else (some false)) else (some false))
def Flc.f (k : Nat) (a0 : ByteArray) : Option (Bool) := Flc.l0 k a0 0 0
theorem Flc.mono_l : ∀ k, (∀ y0 y1 y2, LeO (Flc.l0 k y0 y1 y2) (Flc.l0 (k + 1) y0 y1 y2))
 | 0 => fun _ _ _ r h => by simp [Flc.l0] at h
 | k + 1 => by
  have ih0 := Flc.mono_l k
  ·intro y0 y1 y2
   unfold Flc.l0
   repeat' first | (with_reducible first | exact ih0 _ _ _ | exact Fma.mono _ _ _ | exact Fmb.mono _ _ | exact Fmc.mono _ _ | exact Fnb.mono _ _ | exact lA | apply lI | refine lB ?_ fun _ => ?_) | exact lN _ | apply lI | refine lB ?_ fun _ => ?_
theorem Flc.mono : ∀ a0 k, LeO (Flc.f k a0) (Flc.f (k + 1) a0) := by
 intro a0 k; have ih0 := Flc.mono_l k
 unfold Flc.f
 repeat' first | (with_reducible first | exact ih0 _ _ _ | exact Fma.mono _ _ _ | exact Fmb.mono _ _ | exact Fmc.mono _ _ | exact Fnb.mono _ _ | exact lA | apply lI | refine lB ?_ fun _ => ?_) | exact lN _ | apply lI | refine lB ?_ fun _ => ?_
theorem Flc.calls (k : Nat) (D : ByteArray) (r : Bool) (w : World) (h : Flc.f k D = some r) :
  Calls Try.prog 82 #[.string D] w fun e w' => e = .returned (.bool r) ∧ Below w.heap.size w w' := by
 have HB := aM (Below.refl w.heap.size w); rw [Flc.f] at h; have H := h; clear h; have H' := aM H; clear H
 go_enter Try.func82, Try.ntmps82
 go_wp2
 go_loopg [3, 4] k (fun kq v3 v4 w' => ∃ (B : Int) (z : Int), v3 = .int .i64 B ∧ v4 = .int .i64 z ∧ Aside0 (Flc.l0 kq D B z = some r) ∧ Aside0 (kq ≤ k) ∧ BA w w')
 case atStart => exact ⟨(0), (0), sI, sI, H', ⟨Nat.le_refl _⟩, bT0 HB⟩
 case round =>
  clear H'; obtain ⟨B, z, rfl, rfl, HA, R, HB⟩ := hrel; cases gk with
  | zero => exact absurd HA.out (by simp [Flc.l0])
  | succ k1 =>
   have H := HA.out; clear HA; simp only [Flc.l0] at H
   apply iB H <;> clear H <;> intro O H
   ·have ah := dT O; clear O; replace H := Option.bind_eq_some_iff.mp H; obtain ⟨⟨A, C, Q⟩, ad, H⟩ := H; replace H : (if Q = true then (if B = 0 then ((Fnb.f k1 A).bind fun G => (if G = true then ((Fmc.f k1 A).bind fun I => (if I = true then (Flc.l0 k1 D (wrap64 (B + 1)) (wrap64 (z + C))) else (some false))) else (some false))) else ((Fmc.f k1 A).bind fun J => (if J = true then (Flc.l0 k1 D (wrap64 (B + 1)) (wrap64 (z + C))) else (some false)))) else (some false)) = some r := H; have P := aM ad; clear ad
    by_cases Y : Q = true
    ·subst Y
     rw [if_pos rfl] at H
     apply iB H <;> clear H <;> intro U H
     ·obtain ⟨ai, aj⟩ := bq U; clear U; apply bSx H; clear H; intro G A6 H
      by_cases Z : G = true
      ·subst Z
       rw [if_pos rfl] at H; apply bSx H; clear H; intro I A8 H
       by_cases c9 : I = true
       ·subst c9
        rw [if_pos rfl] at H; have H' := aM H; clear H
        go_wp2_with (first | ((with_reducible refine gate_callee (f := 95) rfl ?_); refine gL_ (some 15) Try.func95 #[.string D, .int .i64 z] ?_; (with_reducible refine (Fma.calls k1 D z A C true _ P.out).mono ?_); rintro e w' ⟨rfl, ⟨nd, rfl⟩⟩; refine ⟨_, rfl, ?_⟩) | (go_at_call 96; (with_reducible refine (Fnb.calls k1 A true _ A6.out).mono ?_); rintro e aq ⟨rfl, hb⟩; replace HB := hS0 HB hb) | (go_at_call 97; (with_reducible refine (Fmc.calls k1 A true _ A8.out).mono ?_); rintro e ar ⟨rfl, hb⟩; replace HB := hS0 HB hb))
        go_roundg k1
        case measure => have := R.out; omega
        case rel => exact ⟨(wrap64 (B + 1)), (wrap64 (z + C)), sI, sI, H', ⟨by have := R.out; omega⟩, bT0 HB⟩
       ·replace c9 := Bool.eq_false_iff.mpr c9; subst c9
        rw [if_neg nF] at H; obtain rfl := Option.some.inj H
        go_wp2_with (first | ((with_reducible refine gate_callee (f := 95) rfl ?_); refine gL_ (some 15) Try.func95 #[.string D, .int .i64 z] ?_; (with_reducible refine (Fma.calls k1 D z A C true _ P.out).mono ?_); rintro e w' ⟨rfl, ⟨nd, rfl⟩⟩; refine ⟨_, rfl, ?_⟩) | (go_at_call 96; (with_reducible refine (Fnb.calls k1 A true _ A6.out).mono ?_); rintro e au ⟨rfl, hb⟩; replace HB := hS0 HB hb) | (go_at_call 97; (with_reducible refine (Fmc.calls k1 A false _ A8.out).mono ?_); rintro e av ⟨rfl, hb⟩; replace HB := hS0 HB hb))
        go_ret
        exact ⟨eW, bO HB.out⟩
      ·replace Z := Bool.eq_false_iff.mpr Z; subst Z
       rw [if_neg nF] at H; obtain rfl := Option.some.inj H
       go_wp2_with (first | ((with_reducible refine gate_callee (f := 95) rfl ?_); refine gL_ (some 15) Try.func95 #[.string D, .int .i64 z] ?_; (with_reducible refine (Fma.calls k1 D z A C true _ P.out).mono ?_); rintro e w' ⟨rfl, ⟨nd, rfl⟩⟩; refine ⟨_, rfl, ?_⟩) | (go_at_call 96; (with_reducible refine (Fnb.calls k1 A false _ A6.out).mono ?_); rintro e aw ⟨rfl, hb⟩; replace HB := hS0 HB hb))
       go_ret
       exact ⟨eW, bO HB.out⟩
     ·obtain ⟨ai, aj⟩ := bn U; apply bSx H; clear H; intro J ag H
      by_cases L : J = true
      ·subst L
       rw [if_pos rfl] at H; have H' := aM H; clear H
       go_wp2_with (first | ((with_reducible refine gate_callee (f := 95) rfl ?_); refine gL_ (some 15) Try.func95 #[.string D, .int .i64 z] ?_; (with_reducible refine (Fma.calls k1 D z A C true _ P.out).mono ?_); rintro e w' ⟨rfl, ⟨nd, rfl⟩⟩; refine ⟨_, rfl, ?_⟩) | (go_at_call 97; (with_reducible refine (Fmc.calls k1 A true _ ag.out).mono ?_); rintro e ax ⟨rfl, hb⟩; replace HB := hS0 HB hb))
       go_roundg k1
       case measure => have := R.out; omega
       case rel => exact ⟨(wrap64 (B + 1)), (wrap64 (z + C)), sI, sI, H', ⟨by have := R.out; omega⟩, bT0 HB⟩
      ·replace L := Bool.eq_false_iff.mpr L; subst L
       rw [if_neg nF] at H; obtain rfl := Option.some.inj H
       go_wp2_with (first | ((with_reducible refine gate_callee (f := 95) rfl ?_); refine gL_ (some 15) Try.func95 #[.string D, .int .i64 z] ?_; (with_reducible refine (Fma.calls k1 D z A C true _ P.out).mono ?_); rintro e w' ⟨rfl, ⟨nd, rfl⟩⟩; refine ⟨_, rfl, ?_⟩) | (go_at_call 97; (with_reducible refine (Fmc.calls k1 A false _ ag.out).mono ?_); rintro e ay ⟨rfl, hb⟩; replace HB := hS0 HB hb))
       go_ret
       exact ⟨eW, bO HB.out⟩
    ·replace Y := Bool.eq_false_iff.mpr Y; subst Y
     rw [if_neg nF] at H; obtain rfl := Option.some.inj H
     go_wp2_with (first | ((with_reducible refine gate_callee (f := 95) rfl ?_); refine gL_ (some 15) Try.func95 #[.string D, .int .i64 z] ?_; (with_reducible refine (Fma.calls k1 D z A C false _ P.out).mono ?_); rintro e w' ⟨rfl, ⟨nd, rfl⟩⟩; refine ⟨_, rfl, ?_⟩))
     go_ret
     exact ⟨eW, bO HB.out⟩
   ·have ah := decide_eq_false O; clear O
    apply iB H <;> clear H <;> intro E H
    ·have ab := dT E; clear E
     apply iB H <;> clear H <;> intro F H
     ·have ac := dT F; clear F; apply bSx H; clear H; intro al an H; obtain rfl := Option.some.inj H
      go_wp2_with (first | (go_at_call 98; (with_reducible refine (Fmb.calls k1 D al _ an.out).mono ?_); rintro e az ⟨rfl, hb⟩; replace HB := hS0 HB hb))
      go_ret
      exact ⟨eW, bO HB.out⟩
     ·have ac := decide_eq_false F; clear F; obtain rfl := Option.some.inj H
      go_wp2
      go_ret
      exact ⟨eW, bO HB.out⟩
    ·have ab := decide_eq_false E; clear E; obtain rfl := Option.some.inj H
     go_wp2
     go_ret
     exact ⟨eW, bO HB.out⟩
def Fna.l0 : Nat → List ByteArray → Int → Option (Bool)
 | 0, _, _ => none
 | k + 1, x0, x3 => if x3 < (x0.length : Int) then (if 0 ≤ x3 then ((Flc.f k (rdOf ByteArray.empty x0 x3)).bind fun t306 => (if t306 = true then (if x3 > 0 then (if 0 ≤ (wrap64 (x3 - 1)) then (if (wrap64 (x3 - 1)) < (x0.length : Int) then (if ((Op.bytesLess ((rdOf ByteArray.empty x0 (wrap64 (x3 - 1))).toList) ((rdOf ByteArray.empty x0 x3).toList)) = true) then (Fna.l0 k x0 (wrap64 (x3 + 1))) else (some false)) else (none)) else (none)) else (Fna.l0 k x0 (wrap64 (x3 + 1)))) else (some false))) else (none)) else (some true)
def Fna.f (k : Nat) (l0 : List ByteArray) : Option (Bool) := Fna.l0 k l0 0
theorem Fna.mono_l : ∀ k, (∀ y0 y1, LeO (Fna.l0 k y0 y1) (Fna.l0 (k + 1) y0 y1))
 | 0 => fun _ _ r h => by simp [Fna.l0] at h
 | k + 1 => by
  have ih0 := Fna.mono_l k
  ·intro y0 y1
   unfold Fna.l0
   repeat' first | (with_reducible first | exact ih0 _ _ | exact Flc.mono _ _ | exact lA | apply lI | refine lB ?_ fun _ => ?_) | exact lN _ | apply lI | refine lB ?_ fun _ => ?_
theorem Fna.mono : ∀ a0 k, LeO (Fna.f k a0) (Fna.f (k + 1) a0) := by
 intro a0 k; have ih0 := Fna.mono_l k
 unfold Fna.f
 repeat' first | (with_reducible first | exact ih0 _ _ | exact Flc.mono _ _ | exact lA | apply lI | refine lB ?_ fun _ => ?_) | exact lN _ | apply lI | refine lB ?_ fun _ => ?_
def Fna.T4 : Bool × List (List Nat × List Nat) := (true, [([], []), ([], []), ([0, 1], [0, 1]), ([2], [2]), ([3], [3]), ([4], [4]), ([5, 4], [5]), ([6], [6]), ([7, 6], [6, 7]), ([8, 6, 6], [6, 8]), ([9], [9]), ([9], [9]), ([11, 9], [9, 11]), ([10, 12, 9], [9, 10, 12]), ([13, 9], [9, 13]), ([9], [9]), ([9], [9]), ([15, 16, 9], [9, 15, 16]), ([17, 9], [9, 17]), ([14, 18, 9], [9, 14, 18]), ([9, 19, 6], [6, 9, 19]), ([6, 20], [6, 20])])
def Fna.B4 : List Nat := [0, 0, 3, 7, 15, 31, 63, 127, 255, 511, 1023, 1023, 3071, 8191, 16383, 1023, 1023, 99327, 230399, 524287, 1048575, 2097151]
theorem Fna.tab4 : rtab .any (opsOf Try.f62 4) = Fna.T4 := by kernel_rfl
theorem Fna.bits4 : waitsOk Fna.T4.2 Fna.B4 = true := by kernel_rfl
theorem Fna.calls (k : Nat) (A0 : Option Addr) (c0 : Nat) (E : List ByteArray) (r : Bool) (w : World) (an : Kd.C Kd.string w A0 E.length E) (ao : E.length ≤ c0) (h : Fna.f k E = some r) :
  Calls Try.prog 62 #[.slice A0 E.length c0] w fun e w' => e = .returned (.bool r) ∧ Below w.heap.size w w' := by
 have W := aM an; have aB := aM ao; clear an ao; have HB := aM (Below.refl w.heap.size w); rw [Fna.f] at h; have H := h; clear h; have H' := aM H; clear H
 go_enter Try.func62, Try.ntmps62
 go_wp2
 go_loopg [3] k (fun kq v3 w' => ∃ (z : Int), v3 = .int .i64 z ∧ Aside0 (Fna.l0 kq E z = some r) ∧ Aside0 (kq ≤ k) ∧ BA w w')
 case atStart => exact ⟨(0), sI, H', ⟨Nat.le_refl _⟩, bT0 HB⟩
 case round =>
  clear H'; obtain ⟨z, rfl, HA, ai, HB⟩ := hrel; cases gk with
  | zero => exact absurd HA.out (by simp [Fna.l0])
  | succ k1 =>
   have H := HA.out; clear HA; simp only [Fna.l0] at H
   apply iB H <;> clear H <;> intro c2 H
   ·have aq := dT c2; clear c2
    apply iN H; clear H; intro c3 H; have ay := dT c3; clear c3; apply bSx H; clear H; intro ar A4 H
    by_cases c5 : ar = true
    ·subst c5
     rw [if_pos rfl] at H
     apply iB H <;> clear H <;> intro c6 H
     ·have au := dT c6; clear c6; obtain ⟨O, Y⟩ : ∃ j_ : Int, (wrap64 (z - 1)) = j_ := ⟨_, rfl⟩
      first | rw [Y] at H | simp only [Y] at H
      (try rw [Y] at A4)
      have hji7w : (IntKind.i64.wrap (z - 1)) = O := (i64_w _).trans Y
      apply iN H; clear H; intro c8 H; have az := dT c8; clear c8
      apply iN H; clear H; intro c9 H; have aA := dT c9; clear c9
      apply iB H <;> clear H <;> intro Z H
      ·have am : (Op.bytesLess ((rdOf ByteArray.empty E (O)).toList) ((rdOf ByteArray.empty E z).toList)) = true := Z; clear Z; have H' := aM H; clear H
       try go_wp2
       replace HB := aM (below_drew1 HB.out); have L : 0 ≤ (z : Int) := oT aO; have M : z < (E.length : Int) := oT aO; obtain ⟨D, P, A⟩ := Kd.at_string W.out z L M; have B := A; cases P; replace A := cX HB A; replace L := eq_true L; replace M := eq_true M; have Q : 0 ≤ ((O) : Int) := oT aO; have R : (O) < (E.length : Int) := oT aO; obtain ⟨aa, ac, F⟩ := Kd.at_string W.out (O) Q R; have G := F; obtain rfl := sJJ ac; replace F := cX HB F; replace Q := eq_true Q; replace R := eq_true R; have U : 0 ≤ (z : Int) := oT aO; have V : z < (E.length : Int) := oT aO; obtain ⟨ab, ad, I⟩ := Kd.at_string W.out z U V; have J := I; obtain rfl := sJJ ad; replace I := cX HB I; replace U := eq_true U; replace V := eq_true V; refine start_ (n := 22) (S := fun w' => w'.cell? (D.add (z).toNat) = some (.string (rdOf ByteArray.empty E z)) ∧ w'.cell? (D.add ((O)).toNat) = some (.string (rdOf ByteArray.empty E (O))) ∧ w'.cell? (D.add (z).toNat) = some (.string (rdOf ByteArray.empty E z))) (ds := []) (bl 22 0) (by kernel_rfl) rfl rfl ⟨((HB.out.cell (World.block_lt_of_cell? w _ B)).trans B), ((HB.out.cell (World.block_lt_of_cell? w _ G)).trans G), ((HB.out.cell (World.block_lt_of_cell? w _ J)).trans J)⟩ (fun af => ?_); refine with_tabW Fna.tab4 Fna.bits4 (fun ae ag => ?_); generalize wr.drew = aC at HB A F I af ⊢; refine pu_ 0 10 (bl 22 1) ae ?_; refine pu_ 1 11 (bl 22 3) ae ?_; refine pu_ 2 12 (bl 22 7) ae ?_; refine tk3_ 3 13 (bl 22 15) ae ag af ?_; refine one_ (i := 4) (N := some 14) (bl 22 31) rfl rfl (one_of ae.out (by kernel_rfl)) (by decide) (fun K hK => ?_); refine gS_ Try.func82 #[.string (rdOf ByteArray.empty E z)] ?_
       with_reducible refine (Flc.calls k1 (rdOf ByteArray.empty E z) true _ A4.out).mono ?_
       rintro e aD ⟨rfl, hb⟩; refine ⟨_, rfl, ?_⟩; replace HB := hS0 HB hb
       refine hK.out _ _ ⟨((HB.out.cell (World.block_lt_of_cell? w _ B)).trans B), ((HB.out.cell (World.block_lt_of_cell? w _ G)).trans G), ((HB.out.cell (World.block_lt_of_cell? w _ J)).trans J)⟩ (fun af => ?_); clear hK K; refine nm_ 14 ?_; refine pu_ 5 15 (bl 22 63) ae ?_; refine pu_ 6 16 (bl 22 127) ae ?_; refine pu_ 7 17 (bl 22 255) ae ?_; refine pu_ 8 18 (bl 22 511) ae ?_; refine pu_ 9 19 (bl 22 1023) ae ?_; refine pu_ 10 20 (bl 22 2047) ae ?_; refine pu_ 11 21 (bl 22 4095) ae ?_; refine pu_ 12 22 (bl 22 8191) ae ?_; refine pu_ 13 23 (bl 22 16383) ae ?_; refine pu_ 15 25 (bl 22 49151) ae ?_; refine pu_ 16 26 (bl 22 114687) ae ?_; refine pu_ 17 27 (bl 22 245759) ae ?_; refine tk3_ 14 24 (bl 22 262143) ae ag af ?_; refine tk3_ 18 28 (bl 22 524287) ae ag af ?_; refine pu_ 19 29 (bl 22 1048575) ae ?_; refine pu_ 20 30 (bl 22 2097151) ae ?_; refine pu_ 21 31 (bl 22 4194303) ae ?_; refine done_ (done_of ae.out (by kernel_rfl)) ?_
       try go_wp2
       go_roundg k1
       case measure => have := ai.out; omega
       case rel => exact ⟨(wrap64 (z + 1)), sI, H', ⟨by have := ai.out; omega⟩, bT0 HB⟩
      ·have am : (Op.bytesLess ((rdOf ByteArray.empty E (O)).toList) ((rdOf ByteArray.empty E z).toList)) = false := by simpa using Z
       clear Z; obtain rfl := Option.some.inj H
       try go_wp2
       replace HB := aM (below_drew1 HB.out); have L : 0 ≤ (z : Int) := oT aO; have M : z < (E.length : Int) := oT aO; obtain ⟨D, P, A⟩ := Kd.at_string W.out z L M; have B := A; cases P; replace A := cX HB A; replace L := eq_true L; replace M := eq_true M; have Q : 0 ≤ ((O) : Int) := oT aO; have R : (O) < (E.length : Int) := oT aO; obtain ⟨aa, ac, F⟩ := Kd.at_string W.out (O) Q R; have G := F; obtain rfl := sJJ ac; replace F := cX HB F; replace Q := eq_true Q; replace R := eq_true R; have U : 0 ≤ (z : Int) := oT aO; have V : z < (E.length : Int) := oT aO; obtain ⟨ab, ad, I⟩ := Kd.at_string W.out z U V; have J := I; obtain rfl := sJJ ad; replace I := cX HB I; replace U := eq_true U; replace V := eq_true V; refine start_ (n := 22) (S := fun w' => w'.cell? (D.add (z).toNat) = some (.string (rdOf ByteArray.empty E z)) ∧ w'.cell? (D.add ((O)).toNat) = some (.string (rdOf ByteArray.empty E (O))) ∧ w'.cell? (D.add (z).toNat) = some (.string (rdOf ByteArray.empty E z))) (ds := []) (bl 22 0) (by kernel_rfl) rfl rfl ⟨((HB.out.cell (World.block_lt_of_cell? w _ B)).trans B), ((HB.out.cell (World.block_lt_of_cell? w _ G)).trans G), ((HB.out.cell (World.block_lt_of_cell? w _ J)).trans J)⟩ (fun af => ?_); refine with_tabW Fna.tab4 Fna.bits4 (fun ae ag => ?_); generalize wr.drew = aE at HB A F I af ⊢; refine pu_ 0 10 (bl 22 1) ae ?_; refine pu_ 1 11 (bl 22 3) ae ?_; refine pu_ 2 12 (bl 22 7) ae ?_; refine tk3_ 3 13 (bl 22 15) ae ag af ?_; refine one_ (i := 4) (N := some 14) (bl 22 31) rfl rfl (one_of ae.out (by kernel_rfl)) (by decide) (fun K hK => ?_); refine gS_ Try.func82 #[.string (rdOf ByteArray.empty E z)] ?_
       with_reducible refine (Flc.calls k1 (rdOf ByteArray.empty E z) true _ A4.out).mono ?_
       rintro e aF ⟨rfl, hb⟩; refine ⟨_, rfl, ?_⟩; replace HB := hS0 HB hb
       refine hK.out _ _ ⟨((HB.out.cell (World.block_lt_of_cell? w _ B)).trans B), ((HB.out.cell (World.block_lt_of_cell? w _ G)).trans G), ((HB.out.cell (World.block_lt_of_cell? w _ J)).trans J)⟩ (fun af => ?_); clear hK K; refine nm_ 14 ?_; refine pu_ 5 15 (bl 22 63) ae ?_; refine pu_ 6 16 (bl 22 127) ae ?_; refine pu_ 7 17 (bl 22 255) ae ?_; refine pu_ 8 18 (bl 22 511) ae ?_; refine pu_ 9 19 (bl 22 1023) ae ?_; refine pu_ 10 20 (bl 22 2047) ae ?_; refine pu_ 11 21 (bl 22 4095) ae ?_; refine pu_ 12 22 (bl 22 8191) ae ?_; refine pu_ 13 23 (bl 22 16383) ae ?_; refine pu_ 15 25 (bl 22 49151) ae ?_; refine pu_ 16 26 (bl 22 114687) ae ?_; refine pu_ 17 27 (bl 22 245759) ae ?_; refine tk3_ 14 24 (bl 22 262143) ae ag af ?_; refine tk3_ 18 28 (bl 22 524287) ae ag af ?_; refine pu_ 19 29 (bl 22 1048575) ae ?_; refine pu_ 20 30 (bl 22 2097151) ae ?_; refine pu_ 21 31 (bl 22 4194303) ae ?_; refine done_ (done_of ae.out (by kernel_rfl)) ?_
       try go_wp2
       go_ret
       exact ⟨by first | rfl | (simp [errW_none, errW_some] <;> rfl) | (simp only [← Y]; first | rfl | (simp [errW_none, errW_some] <;> rfl)) | (simp [*, errW_none, errW_some] <;> rfl), bO HB.out⟩
     ·have au := decide_eq_false c6; clear c6; have H' := aM H; clear H
      try go_wp2
      replace HB := aM (below_drew1 HB.out); have L : 0 ≤ (z : Int) := oT aO; have M : z < (E.length : Int) := oT aO; obtain ⟨D, P, A⟩ := Kd.at_string W.out z L M; have B := A; cases P; replace A := cX HB A; replace L := eq_true L; replace M := eq_true M; refine start_ (n := 22) (S := fun w' => w'.cell? (D.add (z).toNat) = some (.string (rdOf ByteArray.empty E z))) (ds := []) (bl 22 0) (by kernel_rfl) rfl rfl (((HB.out.cell (World.block_lt_of_cell? w _ B)).trans B)) (fun af => ?_); refine with_tabW Fna.tab4 Fna.bits4 (fun ae ag => ?_); generalize wr.drew = aG at HB A af ⊢; refine pu_ 0 10 (bl 22 1) ae ?_; refine pu_ 1 11 (bl 22 3) ae ?_; refine pu_ 2 12 (bl 22 7) ae ?_; refine take_ (i := 3) (N := some 13) (v := ?_) (a' := ?_) (bl 22 15) rfl rfl (take_ofW ae.out ag.out (by kernel_rfl)) (fun _ _ _ h => h) (Or.inl ⟨by rfl, ?_⟩) af ?_ ?_; rotate_left
      ·intro w' s0
       go_simp
       with_reducible rfl
      rotate_left
      ·simp only [Act.put, sA, sB, sC, i64_w, i32_w]
       rfl
      refine one_ (i := 4) (N := some 14) (bl 22 31) rfl rfl (one_of ae.out (by kernel_rfl)) (by decide) (fun K hK => ?_); refine gS_ Try.func82 #[.string (rdOf ByteArray.empty E z)] ?_
      with_reducible refine (Flc.calls k1 (rdOf ByteArray.empty E z) true _ A4.out).mono ?_
      rintro e aH ⟨rfl, hb⟩; refine ⟨_, rfl, ?_⟩; replace HB := hS0 HB hb
      refine hK.out _ _ (((HB.out.cell (World.block_lt_of_cell? w _ B)).trans B)) (fun af => ?_); clear hK K; refine nm_ 14 ?_; refine pu_ 5 15 (bl 22 63) ae ?_; refine pu_ 6 16 (bl 22 127) ae ?_; refine pu_ 7 17 (bl 22 255) ae ?_; refine pu_ 8 18 (bl 22 511) ae ?_; refine pu_ 9 19 (bl 22 1023) ae ?_; refine pn_ 10 20 (bl 22 2047) ae ?_; refine pn_ 11 21 (bl 22 4095) ae ?_; refine pn_ 12 22 (bl 22 8191) ae ?_; refine pn_ 13 23 (bl 22 16383) ae ?_; refine pn_ 14 24 (bl 22 32767) ae ?_; refine pn_ 15 25 (bl 22 65535) ae ?_; refine pn_ 16 26 (bl 22 131071) ae ?_; refine pn_ 17 27 (bl 22 262143) ae ?_; refine pn_ 18 28 (bl 22 524287) ae ?_; refine pn_ 19 29 (bl 22 1048575) ae ?_; refine pu_ 20 30 (bl 22 2097151) ae ?_; refine pu_ 21 31 (bl 22 4194303) ae ?_; refine done_ (done_of ae.out (by kernel_rfl)) ?_
      try go_wp2
      go_roundg k1
      case measure => have := ai.out; omega
      case rel => exact ⟨(wrap64 (z + 1)), sI, H', ⟨by have := ai.out; omega⟩, bT0 HB⟩
    ·replace c5 := Bool.eq_false_iff.mpr c5; subst c5
     rw [if_neg nF] at H; obtain rfl := Option.some.inj H
     try go_wp2
     replace HB := aM (below_drew1 HB.out); have L : 0 ≤ (z : Int) := oT aO; have M : z < (E.length : Int) := oT aO; obtain ⟨D, P, A⟩ := Kd.at_string W.out z L M; have B := A; cases P; replace A := cX HB A; replace L := eq_true L; replace M := eq_true M; refine start_ (n := 22) (S := fun w' => w'.cell? (D.add (z).toNat) = some (.string (rdOf ByteArray.empty E z))) (ds := []) (bl 22 0) (by kernel_rfl) rfl rfl (((HB.out.cell (World.block_lt_of_cell? w _ B)).trans B)) (fun af => ?_); refine with_tabW Fna.tab4 Fna.bits4 (fun ae ag => ?_); generalize wr.drew = aI at HB A af ⊢; refine pu_ 0 10 (bl 22 1) ae ?_; refine pu_ 1 11 (bl 22 3) ae ?_; refine pu_ 2 12 (bl 22 7) ae ?_; refine take_ (i := 3) (N := some 13) (v := ?_) (a' := ?_) (bl 22 15) rfl rfl (take_ofW ae.out ag.out (by kernel_rfl)) (fun _ _ _ h => h) (Or.inl ⟨by rfl, ?_⟩) af ?_ ?_; rotate_left
     ·intro w' s0
      go_simp
      with_reducible rfl
     rotate_left
     ·simp only [Act.put, sA, sB, sC, i64_w, i32_w]
      rfl
     refine one_ (i := 4) (N := some 14) (bl 22 31) rfl rfl (one_of ae.out (by kernel_rfl)) (by decide) (fun K hK => ?_); refine gS_ Try.func82 #[.string (rdOf ByteArray.empty E z)] ?_
     with_reducible refine (Flc.calls k1 (rdOf ByteArray.empty E z) false _ A4.out).mono ?_
     rintro e aJ ⟨rfl, hb⟩; refine ⟨_, rfl, ?_⟩; replace HB := hS0 HB hb
     refine hK.out _ _ (((HB.out.cell (World.block_lt_of_cell? w _ B)).trans B)) (fun af => ?_); clear hK K; refine nm_ 14 ?_; refine pu_ 5 15 (bl 22 63) ae ?_; refine pu_ 6 16 (bl 22 127) ae ?_; refine pn_ 7 17 (bl 22 255) ae ?_; refine pn_ 8 18 (bl 22 511) ae ?_; refine pn_ 9 19 (bl 22 1023) ae ?_; refine pn_ 10 20 (bl 22 2047) ae ?_; refine pn_ 11 21 (bl 22 4095) ae ?_; refine pn_ 12 22 (bl 22 8191) ae ?_; refine pn_ 13 23 (bl 22 16383) ae ?_; refine pn_ 14 24 (bl 22 32767) ae ?_; refine pn_ 15 25 (bl 22 65535) ae ?_; refine pn_ 16 26 (bl 22 131071) ae ?_; refine pn_ 17 27 (bl 22 262143) ae ?_; refine pn_ 18 28 (bl 22 524287) ae ?_; refine pn_ 19 29 (bl 22 1048575) ae ?_; refine pn_ 20 30 (bl 22 2097151) ae ?_; refine pu_ 21 31 (bl 22 4194303) ae ?_; refine done_ (done_of ae.out (by kernel_rfl)) ?_
     try go_wp2
     go_ret
     exact ⟨eW, bO HB.out⟩
   ·have aq := decide_eq_false c2; clear c2; obtain rfl := Option.some.inj H
    go_wp2
    go_ret
    exact ⟨eW, bO HB.out⟩
def Fqb.f (k : Nat) (l0 : List ByteArray) (a1 : Int) : Option (Bool) := if (l0.length : Int) ≤ 6 then ((Fna.f k l0).bind fun t309 => (if t309 = true then (if a1 ≥ 1 then (some (decide (a1 ≤ 256))) else (some false)) else (some false))) else (some false)
theorem Fqb.mono : ∀ a0 a1 k, LeO (Fqb.f k a0 a1) (Fqb.f (k + 1) a0 a1) := by
 intro a0 a1 k
 unfold Fqb.f
 repeat' first | (with_reducible first | exact Fna.mono _ _ | exact lA | apply lI | refine lB ?_ fun _ => ?_) | exact lN _ | apply lI | refine lB ?_ fun _ => ?_
theorem Fqb.calls (k : Nat) (U : Option Addr) (V : Nat) (z : List ByteArray) (L : Int) (r : Bool) (w : World) (G : Kd.C Kd.string w U z.length z) (I : z.length ≤ V) (h : Fqb.f k z L = some r) :
  Calls Try.prog 34 #[.slice U z.length V, .int .i64 L] w fun e w' => e = .returned (.bool r) ∧ Below w.heap.size w w' := by
 have D := aM G; have E := aM I; clear G I; have HB := aM (Below.refl w.heap.size w); rw [Fqb.f] at h; have H := h; clear h
 apply iB H <;> clear H <;> intro A H
 ·have M := dT A; have N : decide (z.length ≤ 6) = true := dT (by omega); clear A; apply bSx H; clear H; intro O P H
  by_cases F : O = true
  ·subst F
   rw [if_pos rfl] at H
   apply iB H <;> clear H <;> intro B H
   ·have Q := dT B; clear B; obtain rfl := Option.some.inj H
    go_enter Try.func34, Try.ntmps34
    go_wp2_with (first | (go_at_call 62; (with_reducible refine (Fna.calls k _ _ z true _ ?s1 E.out P.out).mono ?_); (case s1 => exact cO D.out); rintro e W ⟨rfl, hb⟩; replace HB := hS0 HB hb))
    go_ret
    exact ⟨eW, bO HB.out⟩
   ·have Q := decide_eq_false B; clear B; obtain rfl := Option.some.inj H
    go_enter Try.func34, Try.ntmps34
    go_wp2_with (first | (go_at_call 62; (with_reducible refine (Fna.calls k _ _ z true _ ?s1 E.out P.out).mono ?_); (case s1 => exact cO D.out); rintro e Y ⟨rfl, hb⟩; replace HB := hS0 HB hb))
    go_ret
    exact ⟨eW, bO HB.out⟩
  ·replace F := Bool.eq_false_iff.mpr F; subst F
   rw [if_neg nF] at H; obtain rfl := Option.some.inj H
   go_enter Try.func34, Try.ntmps34
   go_wp2_with (first | (go_at_call 62; (with_reducible refine (Fna.calls k _ _ z false _ ?s1 E.out P.out).mono ?_); (case s1 => exact cO D.out); rintro e Z ⟨rfl, hb⟩; replace HB := hS0 HB hb))
   go_ret
   exact ⟨eW, bO HB.out⟩
 ·have M := decide_eq_false A; have N : decide (z.length ≤ 6) = false := decide_eq_false (by omega); clear A; obtain rfl := Option.some.inj H
  go_enter Try.func34, Try.ntmps34
  go_wp2
  go_ret
  exact ⟨eW, bO HB.out⟩
def Fo.l0 : Nat → List (S73) → Int → Int → Option (Int × Bool)
 | 0, _, _, _ => none
 | k + 1, x0, x1, x6 => if x6 < (x0.length : Int) then (if 0 ≤ x6 then (if (Go.bits .and .i64 x1 ((rd_T73 x0 x6).f0)) = ((rd_T73 x0 x6).f1) then (some ((rd_T73 x0 x6).f2, true)) else (Fo.l0 k x0 x1 (wrap64 (x6 + 1)))) else (none)) else (some (0, false))
def Fo.f (k : Nat) (l0 : List (S73)) (a1 : Int) : Option (Int × Bool) := Fo.l0 k l0 a1 0
theorem Fo.mono_l : ∀ k, (∀ y0 y1 y2, LeO (Fo.l0 k y0 y1 y2) (Fo.l0 (k + 1) y0 y1 y2))
 | 0 => fun _ _ _ r h => by simp [Fo.l0] at h
 | k + 1 => by
  have ih0 := Fo.mono_l k
  ·intro y0 y1 y2
   unfold Fo.l0
   repeat' first | (with_reducible first | exact ih0 _ _ _ | exact lA | apply lI | refine lB ?_ fun _ => ?_) | exact lN _ | apply lI | refine lB ?_ fun _ => ?_
theorem Fo.mono : ∀ a0 a1 k, LeO (Fo.f k a0 a1) (Fo.f (k + 1) a0 a1) := by
 intro a0 a1 k; have ih0 := Fo.mono_l k
 unfold Fo.f
 repeat' first | (with_reducible first | exact ih0 _ _ _ | exact lA | apply lI | refine lB ?_ fun _ => ?_) | exact lN _ | apply lI | refine lB ?_ fun _ => ?_
theorem Fo.calls (k : Nat) (A0 : Option Addr) (c0 : Nat) (F : List (S73)) (a1 : Int) (r1 : Int) (r2 : Bool) (w : World) (ae : Kd.C k73 w A0 F.length F) (af : F.length ≤ c0) (h : Fo.f k F a1 = some (r1, r2)) :
  Calls Try.prog 63 #[.slice A0 F.length c0, .int .i64 a1] w fun e w' => e = .returned (.tuple #[.int .i64 r1, .bool r2]) ∧ Drawn0 w w' := by
 have J := aM ae; have av := aM af; clear ae af; rw [Fo.f] at h; have H := h; clear h; have H' := aM H; clear H
 go_enter Try.func63, Try.ntmps63
 go_wp2
 repeat (go_quiet (fail); try go_wp2)
 go_loopg [6] k (fun kq v6 w' => ∃ (z : Int), v6 = .int .i64 z ∧ Aside0 (Fo.l0 kq F a1 z = some (r1, r2)) ∧ Aside0 (kq ≤ k) ∧ Drawn0 w w')
 case atStart => exact ⟨(0), sI, H', ⟨Nat.le_refl _⟩, dRw⟩
 case round =>
  clear H'
  obtain ⟨z, rfl, HA, aq, ⟨m1, rfl⟩⟩ := hrel; cases gk with
  | zero => exact absurd HA.out (by simp [Fo.l0])
  | succ k1 =>
   have H := HA.out; clear HA; simp only [Fo.l0] at H
   apply iB H <;> clear H <;> intro P H
   ·have ai := dT P; clear P
    apply iN H; clear H; intro c4 H; have au := dT c4; clear c4
    apply iB H <;> clear H <;> intro c5 H
    ·obtain ⟨aj, ak⟩ := bq c5; clear c5; obtain ⟨rfl, rfl⟩ := pE2 H; obtain ⟨⟨G, L, Q, U, V⟩, A, B⟩ := xAt (at_T73 J.out) z; cases L; obtain ⟨⟨I, M, W, Y, Z⟩, D, E⟩ := xAt (at_T73 J.out) z; obtain rfl := sJJ M; obtain ⟨⟨ad, al, am, an, ao⟩, N, O⟩ := xAt (at_T73 J.out) z; obtain rfl := sJJ al
     go_wp2
     repeat (go_quiet (fail); try go_wp2)
     go_ret2
     exact ⟨eVl, dRw⟩
    ·obtain ⟨aj, ak⟩ := bn c5; have H' := aM H; clear H; obtain ⟨⟨G, L, Q, U, V⟩, A, B⟩ := xAt (at_T73 J.out) z; cases L; obtain ⟨⟨I, M, W, Y, Z⟩, D, E⟩ := xAt (at_T73 J.out) z; obtain rfl := sJJ M
     go_wp2
     repeat (go_quiet (fail); try go_wp2)
     go_roundg k1
     case measure => have := aq.out; omega
     case rel => exact ⟨(wrap64 (z + 1)), sI, H', ⟨by have := aq.out; omega⟩, dRw⟩
   ·have ai := decide_eq_false P; clear P; obtain ⟨rfl, rfl⟩ := pE2 H
    go_wp2
    repeat (go_quiet (fail); try go_wp2)
    go_ret2
    exact ⟨eVl, dRw⟩
def Fpc.l0 : Nat → List Int → Int → List Int → Int → Int → Option (List Int)
 | 0, _, _, _, _, _ => none
 | k + 1, x0, x1, x5, x6, x7 => if x7 < x6 then (if 0 ≤ (wrap64 ((wrap64 (x1 * x6)) + x7)) then (if (wrap64 ((wrap64 (x1 * x6)) + x7)) < (x0.length : Int) then (if x5.length < 17592186044416 then (Fpc.l0 k x0 x1 (x5 ++ [rd x0 (wrap64 ((wrap64 (x1 * x6)) + x7))]) x6 (wrap64 (x7 + 1))) else (none)) else (none)) else (none)) else (some x5)
def Fpc.f (k : Nat) (l0 : List Int) (a1 : Int) : Option (List Int) := Fpc.l0 k l0 a1 ([] : List Int) (wrap64 ((l0.length : Int) / 2)) 0
theorem Fpc.mono_l : ∀ k, (∀ y0 y1 y2 y3 y4, LeO (Fpc.l0 k y0 y1 y2 y3 y4) (Fpc.l0 (k + 1) y0 y1 y2 y3 y4))
 | 0 => fun _ _ _ _ _ r h => by simp [Fpc.l0] at h
 | k + 1 => by
  have ih0 := Fpc.mono_l k
  ·intro y0 y1 y2 y3 y4
   unfold Fpc.l0
   repeat' first | (with_reducible first | exact ih0 _ _ _ _ _ | exact lA | apply lI | refine lB ?_ fun _ => ?_) | exact lN _ | apply lI | refine lB ?_ fun _ => ?_
theorem Fpc.mono : ∀ a0 a1 k, LeO (Fpc.f k a0 a1) (Fpc.f (k + 1) a0 a1) := by
 intro a0 a1 k; have ih0 := Fpc.mono_l k
 unfold Fpc.f
 repeat' first | (with_reducible first | exact ih0 _ _ _ _ _ | exact lA | apply lI | refine lB ?_ fun _ => ?_) | exact lN _ | apply lI | refine lB ?_ fun _ => ?_
theorem Fpc.calls (k : Nat) (A0 : Option Addr) (c0 : Nat) (z : List Int) (N : Int) (r : List Int) (w : World) (W : Kd.C (Kd.int .i64) w A0 z.length z) (Y : z.length ≤ c0) (h : Fpc.f k z N = some r) :
  Calls Try.prog 83 #[.slice A0 z.length c0, .int .i64 N] w fun e w' => ∃ Z : Value, e = .returned (Z) ∧ Kd.R (Kd.int .i64) 3 w' w.heap.size (fun _ => True) Z r ∧ Below w.heap.size w w' := by
 have ag := aM W; have an := aM Y; clear W Y; have HB := aM (Below.refl w.heap.size w); rw [Fpc.f] at h; have H := h; clear h; have H' := aM H; clear H
 go_enter Try.func83, Try.ntmps83
 go_wp2
 go_loopg [5, 7] k (fun kq v5 v7 w' => ∃ (D : List Int) (A : Int), v7 = .int .i64 A ∧ Aside0 (Fpc.l0 kq z N D (wrap64 ((z.length : Int) / 2)) A = some r) ∧ Aside0 (kq ≤ k) ∧ RA (Kd.int .i64) 3 w' w v5 D ∧ BA w w')
 case atStart => exact ⟨(([] : List Int)), (0), sI, H', ⟨Nat.le_refl _⟩, ⟨by first | exact Kd.R_nil _ _ _ _ _ | exact Kd.N_nil _ _ _ _ _ | exact Kd.V_nil _ _ _ _ _ | exact Kd.Q_nil _ _ _ _ _ | exact Kd.S_nil _ _ _ _ _⟩, bT0 HB⟩
 case round =>
  clear H'
  obtain ⟨D, A, rfl, HA, aq, G, HB⟩ := hrel; cases gk with
  | zero => exact absurd HA.out (by simp [Fpc.l0])
  | succ k1 =>
   have H := HA.out; clear HA; simp only [Fpc.l0] at H
   apply iB H <;> clear H <;> intro M H
   ·have aa := dT M; clear M; obtain ⟨B, I⟩ : ∃ j_ : Int, (wrap64 ((wrap64 (N * (wrap64 ((z.length : Int) / 2)))) + A)) = j_ := ⟨_, rfl⟩
    first | rw [I] at H | simp only [I] at H
    have hji4w : (IntKind.i64.wrap ((wrap64 (N * (wrap64 ((z.length : Int) / 2)))) + A)) = B := (i64_w _).trans I
    apply iN H; clear H; intro O H; have ak := dT O; clear O
    apply iN H; clear H; intro P H; have al := dT P; clear P
    apply iN H; clear H; intro Q H; have ab := aM Q; clear Q; obtain ⟨ac, E⟩ : ∃ y_ : List Int, y_ = (D ++ [rd z (B)]) := ⟨_, rfl⟩
    first | replace H := rI E H | rw [← E] at H
    have U := aM E; clear E; have H' := aM H; clear H; obtain ⟨⟨ah, ad, F⟩, J, L⟩ := xAt (Kd.at_int ag.out) (B); cases ad; replace F := cX HB F
    go_wp2_with (first | ((with_reducible refine gate_builtin (b := .append) (xs := #[.tmp 16, .tmp 25]) rfl ?_); at_builtin; refine Kd.R_append (Kd.int .i64) (w0 := w) w.heap.size rfl (.tmp 16) (.tmp 25) 24 3 (.int .i64 0) 8 rfl Try.underlying24 info3 rfl (by decide) (by omega) u5 D (rd z (B)) [.int .i64 (rd z (B))] (fun _ => True) (fun _ => False) rfl rfl ?aP (fun _ hk => hk.elim) ?aF ?aO ?aB ?aS ?aL ?_; (case aP => exact rfl); (case aB => exact (bP0 HB)); (case aF => exact (fun _ _ => trivial)); (case aO => exact (rP G)); (case aS => exact (below_size (bP0 HB))); (case aL => have := ab.out; omega); intro am w8 ho hb hg hat; rw [← U.out] at ho; replace HB := aM (hb); have V := aM (ho); clear G; clear ho hb hg hat))
    go_roundg k1
    case measure => have := aq.out; omega
    case rel => exact ⟨(ac), (wrap64 (A + 1)), sI, H', ⟨by have := aq.out; omega⟩, rQ V, bT0 HB⟩
   ·have aa := decide_eq_false M; clear M; obtain rfl := Option.some.inj H
    go_wp2
    go_ret
    exact ⟨_, eW, rO G.out, bO HB.out⟩
def Fq.l0 : Nat → List Int → List Int → Int → Option (Bool)
 | 0, _, _, _ => none
 | k + 1, x0, x1, x5 => if x5 < (x0.length : Int) then (if 0 ≤ x5 then (if x5 < (x1.length : Int) then (if (rd x0 x5) = (rd x1 x5) then (Fq.l0 k x0 x1 (wrap64 (x5 + 1))) else (some false)) else (none)) else (none)) else (some true)
def Fq.f (k : Nat) (l0 : List Int) (l1 : List Int) : Option (Bool) := Fq.l0 k l0 l1 0
theorem Fq.mono_l : ∀ k, (∀ y0 y1 y2, LeO (Fq.l0 k y0 y1 y2) (Fq.l0 (k + 1) y0 y1 y2))
 | 0 => fun _ _ _ r h => by simp [Fq.l0] at h
 | k + 1 => by
  have ih0 := Fq.mono_l k
  ·intro y0 y1 y2
   unfold Fq.l0
   repeat' first | (with_reducible first | exact ih0 _ _ _ | exact lA | apply lI | refine lB ?_ fun _ => ?_) | exact lN _ | apply lI | refine lB ?_ fun _ => ?_
theorem Fq.mono : ∀ a0 a1 k, LeO (Fq.f k a0 a1) (Fq.f (k + 1) a0 a1) := by
 intro a0 a1 k; have ih0 := Fq.mono_l k
 unfold Fq.f
 repeat' first | (with_reducible first | exact ih0 _ _ _ | exact lA | apply lI | refine lB ?_ fun _ => ?_) | exact lN _ | apply lI | refine lB ?_ fun _ => ?_
theorem Fq.calls (k : Nat) (A0 : Option Addr) (c0 : Nat) (F : List Int) (A1 : Option Addr) (c1 : Nat) (G : List Int) (r : Bool) (w : World) (Z : Kd.C (Kd.int .i64) w A0 F.length F) (aa : F.length ≤ c0) (ab : Kd.C (Kd.int .i64) w A1 G.length G) (ac : G.length ≤ c1) (h : Fq.f k F G = some r) :
  Calls Try.prog 84 #[.slice A0 F.length c0, .slice A1 G.length c1] w fun e w' => e = .returned (.bool r) ∧ Drawn0 w w' := by
 have ad := aM Z; have ap := aM aa; clear Z aa; have ae := aM ab; have aq := aM ac; clear ab ac; rw [Fq.f] at h; have H := h; clear h; have H' := aM H; clear H
 go_enter Try.func84, Try.ntmps84
 go_wp2
 repeat (go_quiet (fail); try go_wp2)
 go_loopg [5] k (fun kq v5 w' => ∃ (z : Int), v5 = .int .i64 z ∧ Aside0 (Fq.l0 kq F G z = some r) ∧ Aside0 (kq ≤ k) ∧ Drawn0 w w')
 case atStart => exact ⟨(0), sI, H', ⟨Nat.le_refl _⟩, dRw⟩
 case round =>
  clear H'
  obtain ⟨z, rfl, HA, av, ⟨m1, rfl⟩⟩ := hrel; cases gk with
  | zero => exact absurd HA.out (by simp [Fq.l0])
  | succ k1 =>
   have H := HA.out; clear HA; simp only [Fq.l0] at H
   apply iB H <;> clear H <;> intro L H
   ·have af := dT L; clear L
    apply iN H; clear H; intro U H; have an := dT U; clear U
    apply iN H; clear H; intro V H; have ao := dT V; clear V
    apply iB H <;> clear H <;> intro Q H
    ·obtain ⟨ag, ah⟩ := bq Q; clear Q; have H' := aM H; clear H; obtain ⟨⟨W, I, O⟩, A, B⟩ := xAt (Kd.at_int ad.out) z; cases I; obtain ⟨⟨Y, J, P⟩, D, E⟩ := xAt (Kd.at_int ae.out) z; cases J
     go_wp2
     repeat (go_quiet (fail); try go_wp2)
     go_roundg k1
     case measure => have := av.out; omega
     case rel => exact ⟨(wrap64 (z + 1)), sI, H', ⟨by have := av.out; omega⟩, dRw⟩
    ·obtain ⟨ag, ah⟩ := bn Q; obtain rfl := Option.some.inj H; obtain ⟨⟨W, I, O⟩, A, B⟩ := xAt (Kd.at_int ad.out) z; cases I; obtain ⟨⟨Y, J, P⟩, D, E⟩ := xAt (Kd.at_int ae.out) z; cases J
     go_wp2
     repeat (go_quiet (fail); try go_wp2)
     go_ret
     exact ⟨eVl, dRw⟩
   ·have af := decide_eq_false L; clear L; obtain rfl := Option.some.inj H
    go_wp2
    repeat (go_quiet (fail); try go_wp2)
    go_ret
    exact ⟨eVl, dRw⟩
def Foa.f : Nat → List Int → Int → Int → Option ((List (S73)))
 | 0, _, _, _ => none
 | k + 1, l0, a1, a2 => if (l0.length : Int) = 1 then (if 0 < (l0.length : Int) then (some (([(⟨a1, a2, rd l0 0⟩ : S73)] : List (S73)))) else (none)) else ((Fpc.f k l0 0).bind fun t323 => ((Fpc.f k l0 1).bind fun t326 => ((Fq.f k t323 t326).bind fun t329 => (if t329 = true then ((Foa.f k t323 a1 a2).bind fun t330 => (some t330)) else ((Foa.f k t323 (wrap64 (a1 + (t323.length : Int))) a2).bind fun t333 => ((Foa.f k t326 (wrap64 (a1 + (t323.length : Int))) (wrap64 (a2 + (t323.length : Int)))).bind fun t336 => (if t333.length + t336.length < 5864062014805 then (some (t333 ++ t336)) else (none))))))))
theorem Foa.mono_l : ∀ k, (∀ y0 y1 y2, LeO (Foa.f k y0 y1 y2) (Foa.f (k + 1) y0 y1 y2))
 | 0 => fun _ _ _ r h => by simp [Foa.f] at h
 | k + 1 => by
  have ih0 := Foa.mono_l k
  ·intro y0 y1 y2
   unfold Foa.f
   repeat' first | (with_reducible first | exact ih0 _ _ _ | exact Fpc.mono _ _ _ | exact Fq.mono _ _ _ | exact lA | apply lI | refine lB ?_ fun _ => ?_) | exact lN _ | apply lI | refine lB ?_ fun _ => ?_
theorem Foa.mono : ∀ a0 a1 a2 k, LeO (Foa.f k a0 a1 a2) (Foa.f (k + 1) a0 a1 a2) := by
 intro a0 a1 a2 k; have ih0 := Foa.mono_l k; exact ih0 a0 a1 a2
theorem Foa.calls (k : Nat) : ∀ (Y : Option Addr) (Z : Nat) (E : List Int) (I : Int) (J : Int) (r : List (S73)) (w : World) (ag : Kd.C (Kd.int .i64) w Y E.length E) (ah : E.length ≤ Z) (h : Foa.f k E I J = some r),
  Calls Try.prog 64 #[.slice Y E.length Z, .int .i64 I, .int .i64 J] w fun e w' => ∃ aD : Value, e = .returned (aD) ∧ Kd.R k73 73 w' w.heap.size (fun _ => True) aD r ∧ Below w.heap.size w w' := by
 induction k using Nat.strongRecOn with
 | _ k ih =>
 intro Y Z E I J r w ag ah h; cases k with
 | zero => exact absurd h (by simp [Foa.f])
 | succ k =>
 simp only [Foa.f] at h; have hu73 := Try.underlying73; have W := aM ag; have ac := aM ah; clear ag ah; have HB := aM (Below.refl w.heap.size w); have H := h; clear h
 apply iB H <;> clear H <;> intro c4 H
 ·obtain ⟨aI, aJ⟩ := bq c4; clear c4
  apply iN H; clear H; intro c5 H; have bd := dT c5; have be : decide (0 < E.length) = true := dT (by omega); clear c5; obtain ⟨bf, O⟩ : ∃ y_ : List (S73), y_ = (([(⟨I, J, rd E 0⟩ : S73)] : List (S73))) := ⟨_, rfl⟩
  first | replace H := rI O H | rw [← O] at H
  have aw := aM O; clear O; obtain rfl := Option.some.inj H; have aa : 0 ≤ (0 : Int) := (by omega); have ab : 0 < (E.length : Int) := oT aO; obtain ⟨bc, aK, U⟩ := Kd.at_int W.out 0 aa ab; cases aK; have qi319 : (0 < E.length) = True := eq_true (by omega)
  (try rw [show ((0 : Int)).toNat = 0 from rfl] at U)
  (try rw [Addr.add_zero'] at U)
  replace aa := eq_true aa; replace ab := eq_true ab
  go_enter Try.func64, Try.ntmps64
  go_wp2_with (first | ((with_reducible refine gate_dst (N := 20) rfl ?_); refine Kd.R_lit k73 _ 73 ?hg (N := 20) ?hd (xs := ([(⟨I, J, rd E 0⟩ : S73)] : List (S73))) (inner := [.int .i64 I, .int .i64 J, .int .i64 (rd E 0)]) (ok := fun _ => True) (okp := fun _ => True) ?hr ?hp (fun _ hk => hk) trivial (Below.refl _ _) (Nat.le_refl _) (by simp) ?_; (case hd => rfl); (case hg => rfl); (case hr => first | (go_simp; done) | (go_simp; rfl)); (case hp => exact (Reps.c3 (show Kd.M k73 _ _ _ (⟨I, J, rd E 0⟩ : S73) [.int .i64 I, .int .i64 J, .int .i64 (rd E 0)] from (k73_mkM _ _ _ (⟨I, J, rd E 0⟩ : S73) )) (Reps.none _ _))); intro bg w6 ad hb hg_ hnew_; clear hg_ hnew_; replace ad := nW aw ad; have ax := rW ad (bP0 HB); replace HB := hS0 HB hb; clear hb ad))
  go_ret
  exact ⟨_, eW, rO ax.out, bO HB.out⟩
 ·obtain ⟨aI, aJ⟩ := bn c4; apply bSx H; clear H; intro D A8 H; apply bSx H; clear H; intro G A9 H; apply bSx H; clear H; intro aN aH H
  by_cases ae : aN = true
  ·subst ae
   rw [if_pos rfl] at H; apply bSx H; clear H; intro aP a9 H; obtain rfl := Option.some.inj H
   go_enter Try.func64, Try.ntmps64
   go_wp2_with (first | ((with_reducible refine gate_callee (f := 83) rfl ?_); refine gL_ (some 22) Try.func83 #[.slice Y E.length Z, .int .i64 0] ?_; (with_reducible refine (Fpc.calls k _ _ E 0 D _ ?s1 ac.out A8.out).mono ?_); (case s1 => exact cO W.out); rintro e bl ⟨aQ, rfl, B, hb⟩; refine ⟨_, rfl, ?_⟩; have z := rW B (bP0 HB); replace HB := hS0 HB hb) | ((with_reducible refine gate_callee (f := 83) rfl ?_); refine gL_ (some 24) Try.func83 #[.slice Y E.length Z, .int .i64 1] ?_; (with_reducible refine (Fpc.calls k _ _ E 1 G _ ?s1 ac.out A9.out).mono ?_); (case s1 => exact cB W HB); rintro e bm ⟨aT, rfl, B, hb⟩; refine ⟨_, rfl, ?_⟩; have A := rW (Kd.R_new' B (Kd.R_lt (rP z))) (bP0 HB); replace z := aM (Kd.R_elder' (rP z) (Kd.R_base B) hb); replace HB := hS0 HB hb; obtain ⟨al, am, rfl⟩ := sL z; obtain ⟨aV, aW, rfl⟩ := sL A) | ((with_reducible refine gate_callee (f := 84) rfl ?_); refine gL_ (some 27) Try.func84 #[.slice al D.length am, .slice aV G.length aW] ?_; (with_reducible refine (Fq.calls k _ _ D _ _ G true _ ?s1 (rR z).2.1 ?s3 (rR A).2.1 aH.out).mono ?_); (case s1 => exact cO (rR z).2.2); (case s3 => exact cO (rR A).2.2); rintro e w' ⟨rfl, ⟨nd, rfl⟩⟩; refine ⟨_, rfl, ?_⟩) | ((with_reducible refine gate_callee (f := 64) rfl ?_); refine gL_ (some 31) Try.func64 #[.slice al D.length am, .int .i64 I, .int .i64 J] ?_; (with_reducible refine (ih k (by omega) _ _ D I J aP _ ?s1 (rR z).2.1 a9.out).mono ?_); (case s1 => exact cO (rR z).2.2); rintro e bo ⟨bh, rfl, B, hb⟩; refine ⟨_, rfl, ?_⟩; replace z := rB z hb; replace A := rB A hb; have ay := rW B (bP0 HB); replace HB := hS0 HB hb))
   go_ret
   exact ⟨_, eW, rO ay.out, bO HB.out⟩
  ·replace ae := Bool.eq_false_iff.mpr ae; subst ae
   rw [if_neg nF] at H; apply bSx H; clear H; intro V ba H; apply bSx H; clear H; intro Q bb H
   apply iN H; clear H; intro af H; have az := aM af; clear af; obtain ⟨bi, P⟩ : ∃ y_ : List (S73), y_ = (V ++ Q) := ⟨_, rfl⟩
   first | replace H := rI P H | rw [← P] at H
   have aA := aM P; clear P; obtain rfl := Option.some.inj H
   go_enter Try.func64, Try.ntmps64
   go_wp2_with (first | ((with_reducible refine gate_callee (f := 83) rfl ?_); refine gL_ (some 22) Try.func83 #[.slice Y E.length Z, .int .i64 0] ?_; (with_reducible refine (Fpc.calls k _ _ E 0 D _ ?s1 ac.out A8.out).mono ?_); (case s1 => exact cO W.out); rintro e bp ⟨aQ, rfl, B, hb⟩; refine ⟨_, rfl, ?_⟩; have z := rW B (bP0 HB); replace HB := hS0 HB hb) | ((with_reducible refine gate_callee (f := 83) rfl ?_); refine gL_ (some 24) Try.func83 #[.slice Y E.length Z, .int .i64 1] ?_; (with_reducible refine (Fpc.calls k _ _ E 1 G _ ?s1 ac.out A9.out).mono ?_); (case s1 => exact cB W HB); rintro e br ⟨aT, rfl, B, hb⟩; refine ⟨_, rfl, ?_⟩; have A := rW (Kd.R_new' B (Kd.R_lt (rP z))) (bP0 HB); replace z := aM (Kd.R_elder' (rP z) (Kd.R_base B) hb); replace HB := hS0 HB hb; obtain ⟨ap, aq, rfl⟩ := sL z; obtain ⟨ar, au, rfl⟩ := sL A) | ((with_reducible refine gate_callee (f := 84) rfl ?_); refine gL_ (some 27) Try.func84 #[.slice ap D.length aq, .slice ar G.length au] ?_; (with_reducible refine (Fq.calls k _ _ D _ _ G false _ ?s1 (rR z).2.1 ?s3 (rR A).2.1 aH.out).mono ?_); (case s1 => exact cO (rR z).2.2); (case s3 => exact cO (rR A).2.2); rintro e w' ⟨rfl, ⟨nd, rfl⟩⟩; refine ⟨_, rfl, ?_⟩) | ((with_reducible refine gate_callee (f := 64) rfl ?_); refine gL_ (some 39) Try.func64 #[.slice ap D.length aq, .int .i64 (wrap64 (I + (D.length : Int))), .int .i64 J] ?_; (with_reducible refine (ih k (by omega) _ _ D (wrap64 (I + (D.length : Int))) J V _ ?s1 (rR z).2.1 ba.out).mono ?_); (case s1 => exact cO (rR z).2.2); rintro e bs ⟨a3, rfl, B, hb⟩; refine ⟨_, rfl, ?_⟩; replace z := rB z hb; replace A := rB A hb; have F := rW B (bP0 HB); replace HB := hS0 HB hb) | ((with_reducible refine gate_callee (f := 64) rfl ?_); refine gL_ (some 48) Try.func64 #[.slice ar G.length au, .int .i64 (wrap64 (I + (D.length : Int))), .int .i64 (wrap64 (J + (D.length : Int)))] ?_; (with_reducible refine (ih k (by omega) _ _ G (wrap64 (I + (D.length : Int))) (wrap64 (J + (D.length : Int))) Q _ ?s1 (rR A).2.1 bb.out).mono ?_); (case s1 => exact cO (rR A).2.2); rintro e bt ⟨bj, rfl, B, hb⟩; refine ⟨_, rfl, ?_⟩; replace z := rB z hb; replace A := rB A hb; have L := rW (Kd.R_new' B (Kd.R_lt (rP F))) (bP0 HB); replace F := aM (Kd.R_elder' (rP F) (Kd.R_base B) hb); replace HB := hS0 HB hb; obtain ⟨a4, a5, rfl⟩ := sL L) | ((with_reducible refine gate_builtin (b := .append) (xs := #[.tmp 40, .tmp 48]) rfl ?_); at_builtin; refine Kd.R_append_rows k73 (w0 := w) w.heap.size rfl (.tmp 40) (.tmp 48) 25 73 (.agg #[(.int .i64 0), (.int .i64 0), (.int .i64 0)]) 24 rfl Try.underlying25 info73 rfl (by decide) (by omega) a3 V Q _ _ _ (fun k_ => some k_ ≠ (.slice a4 Q.length a5 : Value).ownBlock) (fun _ => False) rfl rfl ?aO ?aR (fun _ _ h => h) (fun _ h => h.elim) ?aF ?aB ?aS ?aL ?_; (case aR => exact cO (rR L).2.2); (case aB => exact (bP0 HB)); (case aF => exact (fun k_ hk => Kd.fresh' (Kd.R_lt (rP L)) k_ hk)); (case aO => exact (rM F (fun _ hk => hk.2))); (case aS => exact (below_size (bP0 HB))); (case aL => have := az.out; omega); intro bk bu ho hb hg hat; rw [← aA.out] at ho; replace z := aM (Kd.R_over' (rP z) (Kd.R_typed (rP F)) (by decide) hg); replace A := aM (Kd.R_over' (rP A) (Kd.R_typed (rP F)) (by decide) hg); replace L := aM (Kd.R_after (ok := (fun _ => True)) (rP L) hg hat); replace HB := aM (hb); have aC := aM (ho); clear F; clear ho hb hg hat))
   go_ret
   exact ⟨_, eW, rM aC (fun _ hk => trivial), bO HB.out⟩
attribute [local go_sem high] eqA73
mutual
def Fpb.j0 : Nat → List (S73) → Int → Bool → Option (List Int × Int)
 | 0, _, _, _ => none
 | k + 1, x0, x1, x19 => if x19 = true then (some (([] : List Int), 150)) else (Fpb.l0 k x0 x1 1 0)
def Fpb.l0 : Nat → List (S73) → Int → Int → Int → Option (List Int × Int)
 | 0, _, _, _, _ => none
 | k + 1, x0, x1, x6, x7 => if x7 < x1 then (Fpb.l0 k x0 x1 (wrap64 (x6 * 2)) (wrap64 (x7 + 1))) else (if (x0.length : Int) > x6 then (some (([] : List Int), 3)) else (Fpb.l1 k x0 x6 ([] : List Int) 0))
def Fpb.l1 : Nat → List (S73) → Int → List Int → Int → Option (List Int × Int)
 | 0, _, _, _, _ => none
 | k + 1, x0, x6, x8, x9 => if x9 < x6 then ((Fo.f k x0 x9).bind fun bt342 => (if bt342.2 = true then (if bt342.1 < 0 then (some (([] : List Int), 3)) else (if x8.length < 17592186044416 then (Fpb.l1 k x0 x6 (x8 ++ [bt342.1]) (wrap64 (x9 + 1))) else (none))) else (some (([] : List Int), 3)))) else ((Foa.f k x8 0 0).bind fun t347 => (if (t347.length : Int) = (x0.length : Int) then (Fpb.l2 k x0 x8 t347 0) else (some (([] : List Int), 3))))
def Fpb.l2 : Nat → List (S73) → List Int → List (S73) → Int → Option (List Int × Int)
 | 0, _, _, _, _ => none
 | k + 1, x0, x8, x12, x13 => if x13 < (x0.length : Int) then (if 0 ≤ x13 then (if x13 < (x12.length : Int) then (if (!(((rd_T73 x12 x13).f0) == ((rd_T73 x0 x13).f0)) || (!(((rd_T73 x12 x13).f1) == ((rd_T73 x0 x13).f1)) || (!(((rd_T73 x12 x13).f2) == ((rd_T73 x0 x13).f2))))) = true then (some (([] : List Int), 3)) else (Fpb.l2 k x0 x8 x12 (wrap64 (x13 + 1)))) else (none)) else (none)) else (some (x8, 0))
end
def Fpb.f (k : Nat) (l0 : List (S73)) (a1 : Int) : Option (List Int × Int) := if a1 < 0 then (Fpb.j0 k l0 a1 true) else (Fpb.j0 k l0 a1 (decide (a1 > 6)))
theorem Fpb.mono_l : ∀ k, (∀ y0 y1 y2, LeO (Fpb.j0 k y0 y1 y2) (Fpb.j0 (k + 1) y0 y1 y2)) ∧ (∀ y0 y1 y2 y3, LeO (Fpb.l0 k y0 y1 y2 y3) (Fpb.l0 (k + 1) y0 y1 y2 y3)) ∧ (∀ y0 y1 y2 y3, LeO (Fpb.l1 k y0 y1 y2 y3) (Fpb.l1 (k + 1) y0 y1 y2 y3)) ∧ (∀ y0 y1 y2 y3, LeO (Fpb.l2 k y0 y1 y2 y3) (Fpb.l2 (k + 1) y0 y1 y2 y3))
 | 0 => ⟨fun _ _ _ r h => by simp [Fpb.j0] at h, fun _ _ _ _ r h => by simp [Fpb.l0] at h, fun _ _ _ _ r h => by simp [Fpb.l1] at h, fun _ _ _ _ r h => by simp [Fpb.l2] at h⟩
 | k + 1 => by
  obtain ⟨ih0, ih1, ih2, ih3⟩ := Fpb.mono_l k; refine ⟨?_, ?_, ?_, ?_⟩
  ·intro y0 y1 y2
   unfold Fpb.j0
   repeat' first | (with_reducible first | exact ih0 _ _ _ | exact ih1 _ _ _ _ | exact ih2 _ _ _ _ | exact ih3 _ _ _ _ | exact Fo.mono _ _ _ | exact Foa.mono _ _ _ _ | exact lA | apply lI | refine lB ?_ fun _ => ?_) | exact lN _ | apply lI | refine lB ?_ fun _ => ?_
  ·intro y0 y1 y2 y3
   unfold Fpb.l0
   repeat' first | (with_reducible first | exact ih0 _ _ _ | exact ih1 _ _ _ _ | exact ih2 _ _ _ _ | exact ih3 _ _ _ _ | exact Fo.mono _ _ _ | exact Foa.mono _ _ _ _ | exact lA | apply lI | refine lB ?_ fun _ => ?_) | exact lN _ | apply lI | refine lB ?_ fun _ => ?_
  ·intro y0 y1 y2 y3
   unfold Fpb.l1
   repeat' first | (with_reducible first | exact ih0 _ _ _ | exact ih1 _ _ _ _ | exact ih2 _ _ _ _ | exact ih3 _ _ _ _ | exact Fo.mono _ _ _ | exact Foa.mono _ _ _ _ | exact lA | apply lI | refine lB ?_ fun _ => ?_) | exact lN _ | apply lI | refine lB ?_ fun _ => ?_
  ·intro y0 y1 y2 y3
   unfold Fpb.l2
   repeat' first | (with_reducible first | exact ih0 _ _ _ | exact ih1 _ _ _ _ | exact ih2 _ _ _ _ | exact ih3 _ _ _ _ | exact Fo.mono _ _ _ | exact Foa.mono _ _ _ _ | exact lA | apply lI | refine lB ?_ fun _ => ?_) | exact lN _ | apply lI | refine lB ?_ fun _ => ?_
theorem Fpb.mono : ∀ a0 a1 k, LeO (Fpb.f k a0 a1) (Fpb.f (k + 1) a0 a1) := by
 intro a0 a1 k; obtain ⟨ih0, ih1, ih2, ih3⟩ := Fpb.mono_l k
 unfold Fpb.f
 repeat' first | (with_reducible first | exact ih0 _ _ _ | exact ih1 _ _ _ _ | exact ih2 _ _ _ _ | exact ih3 _ _ _ _ | exact Fo.mono _ _ _ | exact Foa.mono _ _ _ _ | exact lA | apply lI | refine lB ?_ fun _ => ?_) | exact lN _ | apply lI | refine lB ?_ fun _ => ?_
theorem Fpb.calls (k : Nat) (A0 : Option Addr) (c0 : Nat) (F : List (S73)) (a1 : Int) (r1 : List Int) (r2 : Int) (w : World) (a8 : Kd.C k73 w A0 F.length F) (a9 : F.length ≤ c0) (h : Fpb.f k F a1 = some (r1, r2)) :
  Calls Try.prog 36 #[.slice A0 F.length c0, .int .i64 a1] w fun e w' => ∃ ba : Value, e = .returned (.tuple #[ba, .int .i64 r2]) ∧ Kd.R (Kd.int .i64) 3 w' w.heap.size (fun _ => True) ba r1 ∧ Below w.heap.size w w' := by
 have hu73 := Try.underlying73; have O := aM a8; have Y := aM a9; clear a8 a9; have HB := aM (Below.refl w.heap.size w); rw [Fpb.f] at h; have H := h; clear h; have aQ := aM H; clear H
 go_enter Try.func36, Try.ntmps36
 go_upto_region 1 with (fail)
 repeat (go_quiet (fail); go_upto_region 1 with (fail))
 go_cut [19] (fun bs wc => ∃ (kq : Nat) (aa : Bool), bs = .bool aa ∧ Aside0 (Fpb.j0 kq F a1 aa = some (r1, r2)) ∧ Aside0 (kq ≤ k) ∧ BA w wc)
 case first =>
  have H := aQ.out; clear aQ
  apply iB H <;> clear H <;> intro c4 H
  ·have ac := dT c4; clear c4
   (first | rw [ac] | (simp only [i64_w, i32_w]; rw [ac]) | skip)
   have H' := aM H; clear H
   go_wp2
   repeat (go_quiet (fail); try go_wp2)
   go_meet
   case rel => exact ⟨_, (true), sI, H', lE, bT0 HB⟩
  ·have ac := decide_eq_false c4; clear c4
   (first | rw [ac] | (simp only [i64_w, i32_w]; rw [ac]) | skip)
   have H' := aM H; clear H
   go_wp2
   repeat (go_quiet (fail); try go_wp2)
   go_meet
   case rel => exact ⟨_, (decide (a1 > 6)), sI, H', lE, bT0 HB⟩
 case rest =>
  clear aQ
  obtain ⟨kq, aa, rfl, HA, HJ2, HB⟩ := hcut; cases kq with
  | zero => exact absurd HA.out (by simp [Fpb.j0])
  | succ bb =>
   have H := HA.out; clear HA; simp only [Fpb.j0] at H
   by_cases c5 : aa = true
   ·subst c5
    rw [if_pos rfl] at H; obtain ⟨rfl, rfl⟩ := pE2 H
    go_wp2
    repeat (go_quiet (fail); try go_wp2)
    go_ret2
    exact ⟨_, eW, by first | exact Kd.R_nil _ _ _ _ _ | exact Kd.N_nil _ _ _ _ _ | exact Kd.V_nil _ _ _ _ _ | exact Kd.Q_nil _ _ _ _ _ | exact Kd.S_nil _ _ _ _ _, bO HB.out⟩
   ·replace c5 := Bool.eq_false_iff.mpr c5; subst c5
    rw [if_neg nF] at H; have H' := aM H; clear H
    go_wp2
    repeat (go_quiet (fail); try go_wp2)
    go_loopg [6, 7] bb (fun kq v6 v7 w' => ∃ (P : Int) (ad : Int), v6 = .int .i64 P ∧ v7 = .int .i64 ad ∧ Aside0 (Fpb.l0 kq F a1 P ad = some (r1, r2)) ∧ Aside0 (kq ≤ bb) ∧ BA w w')
    case atStart => exact ⟨(1), (0), sI, sI, H', ⟨Nat.le_refl _⟩, bT0 HB⟩
    case round =>
     clear H'
     obtain ⟨P, ad, rfl, rfl, HA, al, HB⟩ := hrel; cases gk with
     | zero => exact absurd HA.out (by simp [Fpb.l0])
     | succ k2 =>
      have H := HA.out; clear HA; simp only [Fpb.l0] at H
      apply iB H <;> clear H <;> intro c6 H
      ·have bg := dT c6; clear c6; have H' := aM H; clear H
       go_wp2
       repeat (go_quiet (fail); try go_wp2)
       go_roundg k2
       case measure => have := HJ2.out; have := al.out; omega
       case rel => exact ⟨(wrap64 (P * 2)), (wrap64 (ad + 1)), sI, sI, H', ⟨by have := HJ2.out; have := al.out; omega⟩, bT0 HB⟩
      ·have bg := decide_eq_false c6; clear c6
       apply iB H <;> clear H <;> intro c7 H
       ·have bh := dT c7; clear c7; obtain ⟨rfl, rfl⟩ := pE2 H
        go_wp2
        repeat (go_quiet (fail); try go_wp2)
        go_ret2
        exact ⟨_, eW, by first | exact Kd.R_nil _ _ _ _ _ | exact Kd.N_nil _ _ _ _ _ | exact Kd.V_nil _ _ _ _ _ | exact Kd.Q_nil _ _ _ _ _ | exact Kd.S_nil _ _ _ _ _, bO HB.out⟩
       ·have bh := decide_eq_false c7; clear c7; have H' := aM H; clear H
        go_wp2
        repeat (go_quiet (fail); try go_wp2)
        go_loopg [8, 9] k2 (fun kq v8 v9 w' => ∃ (D : List Int) (I : Int), v9 = .int .i64 I ∧ Aside0 (Fpb.l1 kq F P D I = some (r1, r2)) ∧ Aside0 (kq ≤ k2) ∧ RA (Kd.int .i64) 3 w' w v8 D ∧ BA w w')
        case atStart => exact ⟨(([] : List Int)), (0), sI, H', ⟨Nat.le_refl _⟩, ⟨by first | exact Kd.R_nil _ _ _ _ _ | exact Kd.N_nil _ _ _ _ _ | exact Kd.V_nil _ _ _ _ _ | exact Kd.Q_nil _ _ _ _ _ | exact Kd.S_nil _ _ _ _ _⟩, bT0 HB⟩
        case round =>
         clear H'
         obtain ⟨D, I, rfl, HA, aq, A, HB⟩ := hrel; cases gk with
         | zero => exact absurd HA.out (by simp [Fpb.l1])
         | succ k3 =>
          have H := HA.out; clear HA; simp only [Fpb.l1] at H
          apply iB H <;> clear H <;> intro c8 H
          ·have bi := dT c8; clear c8; replace H := Option.bind_eq_some_iff.mp H; obtain ⟨⟨E, aR⟩, bc, H⟩ := H; replace H : (if aR = true then (if E < 0 then (some (([] : List Int), 3)) else (if D.length < 17592186044416 then (Fpb.l1 k3 F P (D ++ [E]) (wrap64 (I + 1))) else (none))) else (some (([] : List Int), 3))) = some (r1, r2) := H; have A9 := aM bc; clear bc
           by_cases az : aR = true
           ·subst az
            rw [if_pos rfl] at H
            apply iB H <;> clear H <;> intro ah H
            ·have aY := dT ah; clear ah; obtain ⟨rfl, rfl⟩ := pE2 H
             go_wp2_with (first | (go_at_call 63; (with_reducible refine (Fo.calls k3 _ _ F I E true _ ?s1 Y.out A9.out).mono ?_); (case s1 => exact cB O HB); rintro e w' ⟨rfl, ⟨nd, rfl⟩⟩; (try exact dN)))
             repeat (go_quiet (first | (go_at_call 63; (with_reducible refine (Fo.calls k3 _ _ F I E true _ ?s1 Y.out A9.out).mono ?_); (case s1 => exact cB O HB); rintro e w' ⟨rfl, ⟨nd, rfl⟩⟩; (try exact dN))); try go_wp2_with (first | (go_at_call 63; (with_reducible refine (Fo.calls k3 _ _ F I E true _ ?s1 Y.out A9.out).mono ?_); (case s1 => exact cB O HB); rintro e w' ⟨rfl, ⟨nd, rfl⟩⟩; (try exact dN))))
             go_ret2
             exact ⟨_, eW, by first | exact Kd.R_nil _ _ _ _ _ | exact Kd.N_nil _ _ _ _ _ | exact Kd.V_nil _ _ _ _ _ | exact Kd.Q_nil _ _ _ _ _ | exact Kd.S_nil _ _ _ _ _, bO HB.out⟩
            ·have aY := decide_eq_false ah; clear ah
             apply iN H; clear H; intro aA H; have am := aM aA; clear aA; obtain ⟨bj, ab⟩ : ∃ y_ : List Int, y_ = (D ++ [E]) := ⟨_, rfl⟩
             first | replace H := rI ab H | rw [← ab] at H
             have an := aM ab; clear ab; have H' := aM H; clear H
             go_wp2_with (first | (go_at_call 63; (with_reducible refine (Fo.calls k3 _ _ F I E true _ ?s1 Y.out A9.out).mono ?_); (case s1 => exact cB O HB); rintro e w' ⟨rfl, ⟨nd, rfl⟩⟩; (try exact dN)) | ((with_reducible refine gate_builtin (b := .append) (xs := #[.tmp 48, .tmp 50]) rfl ?_); at_builtin; refine Kd.R_append (Kd.int .i64) (w0 := w) w.heap.size rfl (.tmp 48) (.tmp 50) 24 3 (.int .i64 0) 8 rfl Try.underlying24 info3 rfl (by decide) (by omega) u8 D E [.int .i64 E] (fun _ => True) (fun _ => False) rfl rfl ?aP (fun _ hk => hk.elim) ?aF ?aO ?aB ?aS ?aL ?_; (case aP => exact rfl); (case aB => exact (bP0 HB)); (case aF => exact (fun _ _ => trivial)); (case aO => exact (rP A)); (case aS => exact (below_size (bP0 HB))); (case aL => have := am.out; omega); intro aT bd ho hb hg hat; rw [← an.out] at ho; replace HB := aM (hb); have ao := aM (ho); clear A; clear ho hb hg hat))
             repeat (go_quiet (first | (go_at_call 63; (with_reducible refine (Fo.calls k3 _ _ F I E true _ ?s1 Y.out A9.out).mono ?_); (case s1 => exact cB O HB); rintro e w' ⟨rfl, ⟨nd, rfl⟩⟩; (try exact dN)) | ((with_reducible refine gate_builtin (b := .append) (xs := #[.tmp 48, .tmp 50]) rfl ?_); at_builtin; refine Kd.R_append (Kd.int .i64) (w0 := w) w.heap.size rfl (.tmp 48) (.tmp 50) 24 3 (.int .i64 0) 8 rfl Try.underlying24 info3 rfl (by decide) (by omega) u8 D E [.int .i64 E] (fun _ => True) (fun _ => False) rfl rfl ?aP (fun _ hk => hk.elim) ?aF ?aO ?aB ?aS ?aL ?_; (case aP => exact rfl); (case aB => exact (bP0 HB)); (case aF => exact (fun _ _ => trivial)); (case aO => exact (rP A)); (case aS => exact (below_size (bP0 HB))); (case aL => have := am.out; omega); intro aT bd ho hb hg hat; rw [← an.out] at ho; replace HB := aM (hb); have ao := aM (ho); clear A; clear ho hb hg hat)); try go_wp2_with (first | (go_at_call 63; (with_reducible refine (Fo.calls k3 _ _ F I E true _ ?s1 Y.out A9.out).mono ?_); (case s1 => exact cB O HB); rintro e w' ⟨rfl, ⟨nd, rfl⟩⟩; (try exact dN)) | ((with_reducible refine gate_builtin (b := .append) (xs := #[.tmp 48, .tmp 50]) rfl ?_); at_builtin; refine Kd.R_append (Kd.int .i64) (w0 := w) w.heap.size rfl (.tmp 48) (.tmp 50) 24 3 (.int .i64 0) 8 rfl Try.underlying24 info3 rfl (by decide) (by omega) u8 D E [.int .i64 E] (fun _ => True) (fun _ => False) rfl rfl ?aP (fun _ hk => hk.elim) ?aF ?aO ?aB ?aS ?aL ?_; (case aP => exact rfl); (case aB => exact (bP0 HB)); (case aF => exact (fun _ _ => trivial)); (case aO => exact (rP A)); (case aS => exact (below_size (bP0 HB))); (case aL => have := am.out; omega); intro aT bd ho hb hg hat; rw [← an.out] at ho; replace HB := aM (hb); have ao := aM (ho); clear A; clear ho hb hg hat)))
             go_roundg k3
             case measure => have := HJ2.out; have := al.out; have := aq.out; omega
             case rel => exact ⟨(bj), (wrap64 (I + 1)), sI, H', ⟨by have := HJ2.out; have := al.out; have := aq.out; omega⟩, rQ ao, bT0 HB⟩
           ·replace az := Bool.eq_false_iff.mpr az; subst az
            rw [if_neg nF] at H; obtain ⟨rfl, rfl⟩ := pE2 H
            go_wp2_with (first | (go_at_call 63; (with_reducible refine (Fo.calls k3 _ _ F I E false _ ?s1 Y.out A9.out).mono ?_); (case s1 => exact cB O HB); rintro e w' ⟨rfl, ⟨nd, rfl⟩⟩; (try exact dN)))
            repeat (go_quiet (first | (go_at_call 63; (with_reducible refine (Fo.calls k3 _ _ F I E false _ ?s1 Y.out A9.out).mono ?_); (case s1 => exact cB O HB); rintro e w' ⟨rfl, ⟨nd, rfl⟩⟩; (try exact dN))); try go_wp2_with (first | (go_at_call 63; (with_reducible refine (Fo.calls k3 _ _ F I E false _ ?s1 Y.out A9.out).mono ?_); (case s1 => exact cB O HB); rintro e w' ⟨rfl, ⟨nd, rfl⟩⟩; (try exact dN))))
            go_ret2
            exact ⟨_, eW, by first | exact Kd.R_nil _ _ _ _ _ | exact Kd.N_nil _ _ _ _ _ | exact Kd.V_nil _ _ _ _ _ | exact Kd.Q_nil _ _ _ _ _ | exact Kd.S_nil _ _ _ _ _, bO HB.out⟩
          ·have bi := decide_eq_false c8; clear c8; apply bSx H; clear H; intro B ai H
           apply iB H <;> clear H <;> intro Z H
           ·obtain ⟨aZ, a2⟩ := bq Z
            have a3 : (B.length == F.length) = true := by first | simpa using Z | (simp at Z ⊢; omega)
            clear Z; have H' := aM H; clear H; obtain ⟨bk, bl, rfl⟩ := sL A
            go_wp2_with (first | (go_at_call 64; (with_reducible refine (Foa.calls k3 _ _ D 0 0 B _ ?s1 (rR A).2.1 ai.out).mono ?_); (case s1 => exact cO (rR A).2.2); rintro e be ⟨ae, rfl, J, hb⟩; replace A := rB A hb; have G := rW J (bP0 HB); replace HB := hS0 HB hb; obtain ⟨av, aw, rfl⟩ := sL G))
            repeat (go_quiet (first | (go_at_call 64; (with_reducible refine (Foa.calls k3 _ _ D 0 0 B _ ?s1 (rR A).2.1 ai.out).mono ?_); (case s1 => exact cO (rR A).2.2); rintro e be ⟨ae, rfl, J, hb⟩; replace A := rB A hb; have G := rW J (bP0 HB); replace HB := hS0 HB hb; obtain ⟨av, aw, rfl⟩ := sL G)); try go_wp2_with (first | (go_at_call 64; (with_reducible refine (Foa.calls k3 _ _ D 0 0 B _ ?s1 (rR A).2.1 ai.out).mono ?_); (case s1 => exact cO (rR A).2.2); rintro e be ⟨ae, rfl, J, hb⟩; replace A := rB A hb; have G := rW J (bP0 HB); replace HB := hS0 HB hb; obtain ⟨av, aw, rfl⟩ := sL G)))
            go_loopg [13] k3 (fun kq bu w' => ∃ (z : Int), bu = .int .i64 z ∧ Aside0 (Fpb.l2 kq F D B z = some (r1, r2)) ∧ Aside0 (kq ≤ k3) ∧ RA (Kd.int .i64) 3 w' w (.slice bk D.length bl) D ∧ RA k73 73 w' w (.slice av B.length aw) B ∧ BA w w')
            case atStart => exact ⟨(0), sI, H', ⟨Nat.le_refl _⟩, rQ A, rQ G, bT0 HB⟩
            case round =>
             clear H'
             obtain ⟨z, rfl, HA, ar, A, ap, HB⟩ := hrel; cases gk with
             | zero => exact absurd HA.out (by simp [Fpb.l2])
             | succ k4 =>
              have H := HA.out; clear HA; simp only [Fpb.l2] at H
              apply iB H <;> clear H <;> intro aj H
              ·have a4 := dT aj; clear aj
               apply iN H; clear H; intro aC H; have bv := dT aC; clear aC
               apply iN H; clear H; intro aD H; have bw := dT aD; clear aD
               apply iB H <;> clear H <;> intro ak H
               ·have a5 : (!(((rd_T73 B z).f0) == ((rd_T73 F z).f0)) || (!(((rd_T73 B z).f1) == ((rd_T73 F z).f1)) || (!(((rd_T73 B z).f2) == ((rd_T73 F z).f2))))) = true := ak; clear ak; obtain ⟨rfl, rfl⟩ := pE2 H; obtain ⟨⟨a6, ax, aJ, aK, aN⟩, Q, U⟩ := xAt (at_T73 (rR ap).2.2) z; cases ax; obtain ⟨⟨a7, ay, L, M, N⟩, V, W⟩ := xAt (at_T73 O.out) z; cases ay; replace L := cX HB L; replace M := cX HB M; replace N := cX HB N
                go_wp2
                repeat (go_quiet (fail); try go_wp2)
                go_ret2
                exact ⟨_, eW, by first | exact Kd.R_nil _ _ _ _ _ | exact Kd.N_nil _ _ _ _ _ | exact Kd.V_nil _ _ _ _ _ | exact Kd.Q_nil _ _ _ _ _ | exact Kd.S_nil _ _ _ _ _, bO HB.out⟩
               ·have a5 : (!(((rd_T73 B z).f0) == ((rd_T73 F z).f0)) || (!(((rd_T73 B z).f1) == ((rd_T73 F z).f1)) || (!(((rd_T73 B z).f2) == ((rd_T73 F z).f2))))) = false := by simpa using ak
                clear ak; have H' := aM H; clear H; obtain ⟨⟨a6, ax, aJ, aK, aN⟩, Q, U⟩ := xAt (at_T73 (rR ap).2.2) z; cases ax; obtain ⟨⟨a7, ay, L, M, N⟩, V, W⟩ := xAt (at_T73 O.out) z; cases ay; replace L := cX HB L; replace M := cX HB M; replace N := cX HB N
                go_wp2
                repeat (go_quiet (fail); try go_wp2)
                go_roundg k4
                case measure => have := HJ2.out; have := al.out; have := aq.out; have := ar.out; omega
                case rel => exact ⟨(wrap64 (z + 1)), sI, H', ⟨by have := HJ2.out; have := al.out; have := aq.out; have := ar.out; omega⟩, rQ A, rQ ap, bT0 HB⟩
              ·have a4 := decide_eq_false aj; clear aj; obtain ⟨rfl, rfl⟩ := pE2 H
               go_wp2
               repeat (go_quiet (fail); try go_wp2)
               go_ret2
               exact ⟨_, eW, rO A.out, bO HB.out⟩
           ·obtain ⟨aZ, a2⟩ := bn Z
            have a3 : (B.length == F.length) = false := by first | simpa using Z | (simp at Z ⊢; omega)
            obtain ⟨rfl, rfl⟩ := pE2 H; obtain ⟨bC, bD, rfl⟩ := sL A
            go_wp2_with (first | (go_at_call 64; (with_reducible refine (Foa.calls k3 _ _ D 0 0 B _ ?s1 (rR A).2.1 ai.out).mono ?_); (case s1 => exact cO (rR A).2.2); rintro e bf ⟨ae, rfl, J, hb⟩; replace A := rB A hb; have G := rW J (bP0 HB); replace HB := hS0 HB hb; obtain ⟨aV, aW, rfl⟩ := sL G))
            repeat (go_quiet (first | (go_at_call 64; (with_reducible refine (Foa.calls k3 _ _ D 0 0 B _ ?s1 (rR A).2.1 ai.out).mono ?_); (case s1 => exact cO (rR A).2.2); rintro e bf ⟨ae, rfl, J, hb⟩; replace A := rB A hb; have G := rW J (bP0 HB); replace HB := hS0 HB hb; obtain ⟨aV, aW, rfl⟩ := sL G)); try go_wp2_with (first | (go_at_call 64; (with_reducible refine (Foa.calls k3 _ _ D 0 0 B _ ?s1 (rR A).2.1 ai.out).mono ?_); (case s1 => exact cO (rR A).2.2); rintro e bf ⟨ae, rfl, J, hb⟩; replace A := rB A hb; have G := rW J (bP0 HB); replace HB := hS0 HB hb; obtain ⟨aV, aW, rfl⟩ := sL G)))
            go_ret2
            exact ⟨_, eW, by first | exact Kd.R_nil _ _ _ _ _ | exact Kd.N_nil _ _ _ _ _ | exact Kd.V_nil _ _ _ _ _ | exact Kd.Q_nil _ _ _ _ _ | exact Kd.S_nil _ _ _ _ _, bO HB.out⟩
end Go.Proofs.Ytninoenmhcbonaa.X
