/- What the functions of this seat compute, and that the program's calls come to just that: written by this session's own program out of the translation; no condition. -/
import Derived.Test.YthgoonohpfoagaaX0
namespace Go.Proofs.Ythgoonohpfoagaa.X
open Go.RowKit Go.Proofs.YthgoonohpfoagaaW.PrintWords Go.Proofs.YthgoonohpfoagaaW.PrintLast Go.Proofs.YthgoonohpfoagaaW.PrintMore
attribute [local go_sem] max2_int min2_int max_two min_two max_three min_three max_four min_four
set_option linter.unusedVariables false
set_option linter.unusedSimpArgs false
set_option maxHeartbeats 8000000
set_option maxRecDepth 100000

/-! ### tabardref04_within: function 103 -/
def tabardref04_within.l0 : Nat → Int → List Int → Int → Option (Bool)
 | 0, _, _, _ => none
 | k + 1, x0, x1, x5 => if (wrap64 (x5 + 1)) < (x1.length : Int) then (if 0 ≤ x5 then (if x5 < (x1.length : Int) then (if x0 ≥ (rd x1 x5) then (if 0 ≤ (wrap64 (x5 + 1)) then (if x0 ≤ (rd x1 (wrap64 (x5 + 1))) then (some true) else (tabardref04_within.l0 k x0 x1 (wrap64 (x5 + 2)))) else (none)) else (tabardref04_within.l0 k x0 x1 (wrap64 (x5 + 2)))) else (none)) else (none)) else (some false)
def tabardref04_within.f (k : Nat) (a0 : Int) (l1 : List Int) : Option (Bool) := tabardref04_within.l0 k a0 l1 0
theorem tabardref04_within.mono_l : ∀ k, (∀ y0 y1 y2, LeO (tabardref04_within.l0 k y0 y1 y2) (tabardref04_within.l0 (k + 1) y0 y1 y2))
 | 0 => fun _ _ _ r h => by simp [tabardref04_within.l0] at h
 | k + 1 => by
  have ih0 := tabardref04_within.mono_l k
  ·intro y0 y1 y2
   unfold tabardref04_within.l0
   repeat' first | (with_reducible first | exact ih0 _ _ _ | exact lA | apply lI | refine lB ?_ fun _ => ?_) | exact lN _ | apply lI | refine lB ?_ fun _ => ?_
theorem tabardref04_within.mono : ∀ a0 a1 k, LeO (tabardref04_within.f k a0 a1) (tabardref04_within.f (k + 1) a0 a1) := by
 intro a0 a1 k; have ih0 := tabardref04_within.mono_l k
 unfold tabardref04_within.f
 repeat' first | (with_reducible first | exact ih0 _ _ _ | exact lA | apply lI | refine lB ?_ fun _ => ?_) | exact lN _ | apply lI | refine lB ?_ fun _ => ?_
theorem tabardref04_within.calls (k : Nat) (Z : Int) (A1 : Option Addr) (c1 : Nat) (D : List Int) (r : Bool) (w : World) (ae : Kd.C (Kd.int .i64) w A1 D.length D) (af : D.length ≤ c1) (h : tabardref04_within.f k Z D = some r) :
  Calls Try.prog 103 #[.int .i64 Z, .slice A1 D.length c1] w fun e w' => e = .returned (.bool r) ∧ Drawn0 w w' := by
 have Q := aM ae; have ao := aM af; clear ae af; rw [tabardref04_within.f] at h; have H := h; clear h; have H' := aM H; clear H
 go_enter Try.func103, Try.ntmps103
 go_wp2
 go_loopg [5] k (fun kq v5 w' => ∃ (z : Int), v5 = .int .i64 z ∧ Aside0 (tabardref04_within.l0 kq Z D z = some r) ∧ Aside0 (kq ≤ k) ∧ Drawn0 w w')
 case atStart => exact ⟨(0), sI, H', ⟨Nat.le_refl _⟩, by repeat (first | exact Drawn0.refl _ | apply Drawn0.step)⟩
 case round =>
  clear H'
  obtain ⟨z, rfl, HA, HK1, ⟨m1, rfl⟩⟩ := hrel; cases gk with
  | zero => exact absurd HA.out (by simp [tabardref04_within.l0])
  | succ k1 =>
   have H := HA.out; clear HA; simp only [tabardref04_within.l0] at H
   by_cases U : (wrap64 (z + 1)) < (D.length : Int)
   ·rw [if_pos U] at H; have aa := dT U; clear U
    by_cases c4 : 0 ≤ z
    ·rw [if_pos c4] at H; have al := dT c4; clear c4
     by_cases c5 : z < (D.length : Int)
     ·rw [if_pos c5] at H; have am := dT c5; clear c5
      by_cases V : Z ≥ (rd D z)
      ·rw [if_pos V] at H; have ag := dT V; clear V; obtain ⟨G, J⟩ : ∃ j_ : Int, (wrap64 (z + 1)) = j_ := ⟨_, rfl⟩
       first | rw [J] at H | simp only [J] at H
       (try rw [J] at aa)
       have hji7w : (IntKind.i64.wrap (z + 1)) = G := (i64_w _).trans J
       by_cases c8 : 0 ≤ (G)
       ·rw [if_pos c8] at H; have an := dT c8; clear c8
        by_cases W : Z ≤ (rd D (G))
        ·rw [if_pos W] at H; have ah := dT W; clear W; obtain rfl := Option.some.inj H; have A : 0 ≤ (z : Int) := oT aO; have B : z < (D.length : Int) := oT aO; obtain ⟨I, L, O⟩ := Kd.at_int Q.out z A B; cases L; replace A := eq_true A; replace B := eq_true B; have E : 0 ≤ ((G) : Int) := oT aO; have F : (G) < (D.length : Int) := oT aO; obtain ⟨P, R, Y⟩ := Kd.at_int Q.out (G) E F; have he_ : I = P := (by injection R); subst he_; replace E := eq_true E; replace F := eq_true F
         go_wp2
         go_ret
         exact ⟨by first | rfl | (simp; done) | (simp only [← J] <;> (first | rfl | simp)) | (simp [*]; done), by repeat (first | exact Drawn0.refl _ | apply Drawn0.step)⟩
        ·rw [if_neg W] at H; have ah := decide_eq_false W; clear W; have H' := aM H; clear H; have A : 0 ≤ (z : Int) := oT aO; have B : z < (D.length : Int) := oT aO; obtain ⟨I, L, O⟩ := Kd.at_int Q.out z A B; cases L; replace A := eq_true A; replace B := eq_true B; have E : 0 ≤ ((G) : Int) := oT aO; have F : (G) < (D.length : Int) := oT aO; obtain ⟨P, R, Y⟩ := Kd.at_int Q.out (G) E F; have he_ : I = P := (by injection R); subst he_; replace E := eq_true E; replace F := eq_true F
         go_wp2
         go_roundg k1
         case measure => have := HK1.out; omega
         case rel => exact ⟨(wrap64 (z + 2)), sI, H', ⟨by have := HK1.out; omega⟩, by repeat (first | exact Drawn0.refl _ | apply Drawn0.step)⟩
       ·exact nX c8 H
      ·rw [if_neg V] at H; have ag := decide_eq_false V; clear V; have H' := aM H; clear H; have A : 0 ≤ (z : Int) := oT aO; have B : z < (D.length : Int) := oT aO; obtain ⟨I, L, O⟩ := Kd.at_int Q.out z A B; cases L; replace A := eq_true A; replace B := eq_true B
       go_wp2
       go_roundg k1
       case measure => have := HK1.out; omega
       case rel => exact ⟨(wrap64 (z + 2)), sI, H', ⟨by have := HK1.out; omega⟩, by repeat (first | exact Drawn0.refl _ | apply Drawn0.step)⟩
     ·exact nX c5 H
    ·exact nX c4 H
   ·rw [if_neg U] at H; have aa := decide_eq_false U; clear U; obtain rfl := Option.some.inj H
    go_wp2
    go_ret
    exact ⟨by first | rfl | (simp; done) | (simp [*]; done), by repeat (first | exact Drawn0.refl _ | apply Drawn0.step)⟩

/-! ### tabardref04_Start: function 95 -/
def tabardref04_Start.f (k : Nat) (a0 : Int) : Option (Bool) := (tabardref04_within.f k a0 (([65, 90, 97, 122, 95, 95, 913, 929, 931, 937, 945, 969] : List Int))).bind fun t228 => (some t228)
theorem tabardref04_Start.mono : ∀ a0 k, LeO (tabardref04_Start.f k a0) (tabardref04_Start.f (k + 1) a0) := by
 intro a0 k
 unfold tabardref04_Start.f
 repeat' first | (with_reducible first | exact tabardref04_within.mono _ _ _ | exact lA | apply lI | refine lB ?_ fun _ => ?_) | exact lN _ | apply lI | refine lB ?_ fun _ => ?_
theorem tabardref04_Start.calls (k : Nat) (E : Int) (r : Bool) (w : World) (h : tabardref04_Start.f k E = some r) :
  Calls Try.prog 95 #[.int .i64 E] w fun e w' => e = .returned (.bool r) ∧ Below w.heap.size w w' := by
 have HB := aM (Below.refl w.heap.size w); rw [tabardref04_Start.f] at h; have H := h; clear h; obtain ⟨D, z⟩ : ∃ y_ : List Int, y_ = (([65, 90, 97, 122, 95, 95, 913, 929, 931, 937, 945, 969] : List Int)) := ⟨_, rfl⟩
 first | replace H := rI z H | rw [← z] at H
 have F := aM z; clear z; replace H := Option.bind_eq_some_iff.mp H; obtain ⟨I, G, H⟩ := H; have P := aM G; clear G; obtain rfl := Option.some.inj H
 go_enter Try.func95, Try.ntmps95
 go_wp2_with (first | ((with_reducible refine gate_dst (N := 4) rfl ?_); refine Kd.R_lit (Kd.int .i64) _ 3 ?hg (N := 4) ?hd (xs := ([65, 90, 97, 122, 95, 95, 913, 929, 931, 937, 945, 969] : List Int)) (inner := [.int .i64 65, .int .i64 90, .int .i64 97, .int .i64 122, .int .i64 95, .int .i64 95, .int .i64 913, .int .i64 929, .int .i64 931, .int .i64 937, .int .i64 945, .int .i64 969]) (ok := fun _ => True) (okp := fun _ => True) ?hr ?hp (fun _ hk => hk) trivial (Below.refl _ _) (Nat.le_refl _) (by simp) ?_; (case hd => rfl); (case hg => rfl); (case hr => first | (go_simp; done) | (go_simp; rfl)); (case hp => exact (Reps.one (show Kd.M (Kd.int .i64) _ _ _ 65 [.int .i64 65] from rfl) (Reps.one (show Kd.M (Kd.int .i64) _ _ _ 90 [.int .i64 90] from rfl) (Reps.one (show Kd.M (Kd.int .i64) _ _ _ 97 [.int .i64 97] from rfl) (Reps.one (show Kd.M (Kd.int .i64) _ _ _ 122 [.int .i64 122] from rfl) (Reps.one (show Kd.M (Kd.int .i64) _ _ _ 95 [.int .i64 95] from rfl) (Reps.one (show Kd.M (Kd.int .i64) _ _ _ 95 [.int .i64 95] from rfl) (Reps.one (show Kd.M (Kd.int .i64) _ _ _ 913 [.int .i64 913] from rfl) (Reps.one (show Kd.M (Kd.int .i64) _ _ _ 929 [.int .i64 929] from rfl) (Reps.one (show Kd.M (Kd.int .i64) _ _ _ 931 [.int .i64 931] from rfl) (Reps.one (show Kd.M (Kd.int .i64) _ _ _ 937 [.int .i64 937] from rfl) (Reps.one (show Kd.M (Kd.int .i64) _ _ _ 945 [.int .i64 945] from rfl) (Reps.one (show Kd.M (Kd.int .i64) _ _ _ 969 [.int .i64 969] from rfl) (Reps.none _ _)))))))))))))); intro Q R B hb hg_ hnew_; clear hg_ hnew_; replace B := nW F B; have A := rW B (bP0 HB); replace HB := hS0 HB hb; clear hb B; obtain ⟨J, L, O⟩ := sL A; subst O) | ((with_reducible refine gate_callee (f := 103) rfl ?_); refine gL_ (some 5) Try.func103 #[.int .i64 E, .slice J D.length L] ?_; (with_reducible refine (tabardref04_within.calls k E _ _ D I _ ?s1 (rR A).2.1 P.out).mono ?_); (case s1 => exact cO (rR A).2.2); rintro e w' ⟨rfl, ⟨nd, rfl⟩⟩; refine ⟨_, rfl, ?_⟩))
 go_ret
 exact ⟨eW, bO HB.out⟩

/-! ### tabardref04_Rest: function 96 -/
def tabardref04_Rest.f (k : Nat) (a0 : Int) : Option (Bool) := (tabardref04_Start.f k a0).bind fun t229 => (if t229 = true then (some true) else ((tabardref04_within.f k a0 (([48, 57, 8242, 8242, 8320, 8329] : List Int))).bind fun t233 => (some t233)))
theorem tabardref04_Rest.mono : ∀ a0 k, LeO (tabardref04_Rest.f k a0) (tabardref04_Rest.f (k + 1) a0) := by
 intro a0 k
 unfold tabardref04_Rest.f
 repeat' first | (with_reducible first | exact tabardref04_Start.mono _ _ | exact tabardref04_within.mono _ _ _ | exact lA | apply lI | refine lB ?_ fun _ => ?_) | exact lN _ | apply lI | refine lB ?_ fun _ => ?_
theorem tabardref04_Rest.calls (k : Nat) (B : Int) (r : Bool) (w : World) (h : tabardref04_Rest.f k B = some r) :
  Calls Try.prog 96 #[.int .i64 B] w fun e w' => e = .returned (.bool r) ∧ Below w.heap.size w w' := by
 have HB := aM (Below.refl w.heap.size w); rw [tabardref04_Rest.f] at h; have H := h; clear h; replace H := Option.bind_eq_some_iff.mp H; obtain ⟨J, G, H⟩ := H; have P := aM G; clear G
 by_cases E : J = true
 ·subst E
  rw [if_pos rfl] at H; obtain rfl := Option.some.inj H
  go_enter Try.func96, Try.ntmps96
  go_wp2_with (first | ((with_reducible refine gate_callee (f := 95) rfl ?_); refine gL_ (some 4) Try.func95 #[.int .i64 B] ?_; (with_reducible refine (tabardref04_Start.calls k B true _ P.out).mono ?_); rintro e Y ⟨rfl, hb⟩; refine ⟨_, rfl, ?_⟩; replace HB := hS0 HB hb; (try clear hb)))
  go_ret
  exact ⟨eW, bO HB.out⟩
 ·replace E := Bool.eq_false_iff.mpr E; subst E
  rw [if_neg nF] at H; obtain ⟨L, z⟩ : ∃ y_ : List Int, y_ = (([48, 57, 8242, 8242, 8320, 8329] : List Int)) := ⟨_, rfl⟩
  first | replace H := rI z H | rw [← z] at H
  have F := aM z; clear z; replace H := Option.bind_eq_some_iff.mp H; obtain ⟨O, I, H⟩ := H; have R := aM I; clear I; obtain rfl := Option.some.inj H
  go_enter Try.func96, Try.ntmps96
  go_wp2_with (first | ((with_reducible refine gate_callee (f := 95) rfl ?_); refine gL_ (some 4) Try.func95 #[.int .i64 B] ?_; (with_reducible refine (tabardref04_Start.calls k B false _ P.out).mono ?_); rintro e Z ⟨rfl, hb⟩; refine ⟨_, rfl, ?_⟩; replace HB := hS0 HB hb; (try clear hb); (try clear hk)) | ((with_reducible refine gate_dst (N := 7) rfl ?_); (try (refine gate_guard (by rfl) ?_; dsimp only)); refine Kd.R_lit (Kd.int .i64) _ 3 ?hg (N := 7) ?hd (xs := ([48, 57, 8242, 8242, 8320, 8329] : List Int)) (inner := [.int .i64 48, .int .i64 57, .int .i64 8242, .int .i64 8242, .int .i64 8320, .int .i64 8329]) (ok := fun _ => True) (okp := fun _ => True) ?hr ?hp (fun _ hk => hk) trivial (Below.refl _ _) (Nat.le_refl _) (by simp) ?_; (case hd => rfl); (case hg => rfl); (case hr => first | (go_simp; done) | (go_simp; rfl)); (case hp => exact (Reps.one (show Kd.M (Kd.int .i64) _ _ _ 48 [.int .i64 48] from rfl) (Reps.one (show Kd.M (Kd.int .i64) _ _ _ 57 [.int .i64 57] from rfl) (Reps.one (show Kd.M (Kd.int .i64) _ _ _ 8242 [.int .i64 8242] from rfl) (Reps.one (show Kd.M (Kd.int .i64) _ _ _ 8242 [.int .i64 8242] from rfl) (Reps.one (show Kd.M (Kd.int .i64) _ _ _ 8320 [.int .i64 8320] from rfl) (Reps.one (show Kd.M (Kd.int .i64) _ _ _ 8329 [.int .i64 8329] from rfl) (Reps.none _ _)))))))); intro U w7 D hb hg_ hnew_; clear hg_ hnew_; replace D := nW F D; have A := rW D (bP0 HB); replace HB := hS0 HB hb; clear hb D; obtain ⟨V, W, Q⟩ := sL A; subst Q) | (go_at_call 103; (with_reducible refine (tabardref04_within.calls k B _ _ L O _ ?s1 (rR A).2.1 R.out).mono ?_); (case s1 => exact cO (rR A).2.2); rintro e w' ⟨rfl, ⟨nd, rfl⟩⟩))
  go_ret
  exact ⟨eW, bO HB.out⟩

end Go.Proofs.Ythgoonohpfoagaa.X
