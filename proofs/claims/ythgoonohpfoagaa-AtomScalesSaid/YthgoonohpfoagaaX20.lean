/- What the functions of this seat compute, and that the program's calls come to just that: written by this session's own program out of the translation; no condition. -/
import Derived.Test.YthgoonohpfoagaaX0
import Derived.Test.YthgoonohpfoagaaX18
import Derived.Test.YthgoonohpfoagaaX19
namespace Go.Proofs.Ythgoonohpfoagaa.X
open Go.RowKit Go.Proofs.YthgoonohpfoagaaW.PrintWords Go.Proofs.YthgoonohpfoagaaW.PrintLast Go.Proofs.YthgoonohpfoagaaW.PrintMore
attribute [local go_sem] max2_int min2_int max_two min_two max_three min_three max_four min_four
set_option linter.unusedVariables false
set_option linter.unusedSimpArgs false
set_option maxHeartbeats 8000000
set_option maxRecDepth 100000

/-! ### tabardref04_Reserved: function 97 -/
def tabardref04_Reserved.l0 : Nat → ByteArray → List ByteArray → Int → Option (Bool)
 | 0, _, _, _ => none
 | k + 1, x0, x3, x4 => if x4 < (x3.length : Int) then (if 0 ≤ x4 then (if (rdOf ByteArray.empty x3 x4).toList = x0.toList then (some true) else (tabardref04_Reserved.l0 k x0 x3 (wrap64 (x4 + 1)))) else (none)) else (some false)
def tabardref04_Reserved.f (k : Nat) (a0 : ByteArray) : Option (Bool) := tabardref04_Reserved.l0 k a0 (([(⟨#[97, 110, 100]⟩ : ByteArray), (⟨#[111, 114]⟩ : ByteArray), (⟨#[110, 111, 116]⟩ : ByteArray), (⟨#[101, 120]⟩ : ByteArray), (⟨#[97, 108, 108]⟩ : ByteArray), (⟨#[109, 111, 100]⟩ : ByteArray), (⟨#[116, 114, 117, 101]⟩ : ByteArray), (⟨#[102, 97, 108, 115, 101]⟩ : ByteArray)] : List ByteArray)) 0
theorem tabardref04_Reserved.mono_l : ∀ k, (∀ y0 y1 y2, LeO (tabardref04_Reserved.l0 k y0 y1 y2) (tabardref04_Reserved.l0 (k + 1) y0 y1 y2))
 | 0 => fun _ _ _ r h => by simp [tabardref04_Reserved.l0] at h
 | k + 1 => by
  have ih0 := tabardref04_Reserved.mono_l k
  ·intro y0 y1 y2
   unfold tabardref04_Reserved.l0
   repeat' first | (with_reducible first | exact ih0 _ _ _ | exact lA | apply lI | refine lB ?_ fun _ => ?_) | exact lN _ | apply lI | refine lB ?_ fun _ => ?_
theorem tabardref04_Reserved.mono : ∀ a0 k, LeO (tabardref04_Reserved.f k a0) (tabardref04_Reserved.f (k + 1) a0) := by
 intro a0 k; have ih0 := tabardref04_Reserved.mono_l k
 unfold tabardref04_Reserved.f
 repeat' first | (with_reducible first | exact ih0 _ _ _ | exact lA | apply lI | refine lB ?_ fun _ => ?_) | exact lN _ | apply lI | refine lB ?_ fun _ => ?_
theorem tabardref04_Reserved.calls (k : Nat) (O : ByteArray) (r : Bool) (w : World) (h : tabardref04_Reserved.f k O = some r) :
  Calls Try.prog 97 #[.string O] w fun e w' => e = .returned (.bool r) ∧ Below w.heap.size w w' := by
 have HB := aM (Below.refl w.heap.size w); rw [tabardref04_Reserved.f] at h; have H := h; clear h; obtain ⟨C, E⟩ : ∃ y_ : List ByteArray, y_ = (([(⟨#[97, 110, 100]⟩ : ByteArray), (⟨#[111, 114]⟩ : ByteArray), (⟨#[110, 111, 116]⟩ : ByteArray), (⟨#[101, 120]⟩ : ByteArray), (⟨#[97, 108, 108]⟩ : ByteArray), (⟨#[109, 111, 100]⟩ : ByteArray), (⟨#[116, 114, 117, 101]⟩ : ByteArray), (⟨#[102, 97, 108, 115, 101]⟩ : ByteArray)] : List ByteArray)) := ⟨_, rfl⟩
 first | replace H := rI E H | rw [← E] at H
 have P := aM E; clear E; have H' := aM H; clear H
 go_enter Try.func97, Try.ntmps97
 go_wp2_with (first | ((with_reducible refine gate_dst (N := 5) rfl ?_); refine Kd.R_lit Kd.string _ 9 ?hg (N := 5) ?hd (xs := ([(⟨#[97, 110, 100]⟩ : ByteArray), (⟨#[111, 114]⟩ : ByteArray), (⟨#[110, 111, 116]⟩ : ByteArray), (⟨#[101, 120]⟩ : ByteArray), (⟨#[97, 108, 108]⟩ : ByteArray), (⟨#[109, 111, 100]⟩ : ByteArray), (⟨#[116, 114, 117, 101]⟩ : ByteArray), (⟨#[102, 97, 108, 115, 101]⟩ : ByteArray)] : List ByteArray)) (inner := [.string (⟨#[97, 110, 100]⟩ : ByteArray), .string (⟨#[111, 114]⟩ : ByteArray), .string (⟨#[110, 111, 116]⟩ : ByteArray), .string (⟨#[101, 120]⟩ : ByteArray), .string (⟨#[97, 108, 108]⟩ : ByteArray), .string (⟨#[109, 111, 100]⟩ : ByteArray), .string (⟨#[116, 114, 117, 101]⟩ : ByteArray), .string (⟨#[102, 97, 108, 115, 101]⟩ : ByteArray)]) (ok := fun _ => True) (okp := fun _ => True) ?hr ?hp (fun _ hk => hk) trivial (Below.refl _ _) (Nat.le_refl _) (by simp) ?_; (case hd => rfl); (case hg => rfl); (case hr => first | (go_simp; done) | (go_simp; rfl)); (case hp => exact (Reps.one (show Kd.M Kd.string _ _ _ (⟨#[97, 110, 100]⟩ : ByteArray) [.string (⟨#[97, 110, 100]⟩ : ByteArray)] from rfl) (Reps.one (show Kd.M Kd.string _ _ _ (⟨#[111, 114]⟩ : ByteArray) [.string (⟨#[111, 114]⟩ : ByteArray)] from rfl) (Reps.one (show Kd.M Kd.string _ _ _ (⟨#[110, 111, 116]⟩ : ByteArray) [.string (⟨#[110, 111, 116]⟩ : ByteArray)] from rfl) (Reps.one (show Kd.M Kd.string _ _ _ (⟨#[101, 120]⟩ : ByteArray) [.string (⟨#[101, 120]⟩ : ByteArray)] from rfl) (Reps.one (show Kd.M Kd.string _ _ _ (⟨#[97, 108, 108]⟩ : ByteArray) [.string (⟨#[97, 108, 108]⟩ : ByteArray)] from rfl) (Reps.one (show Kd.M Kd.string _ _ _ (⟨#[109, 111, 100]⟩ : ByteArray) [.string (⟨#[109, 111, 100]⟩ : ByteArray)] from rfl) (Reps.one (show Kd.M Kd.string _ _ _ (⟨#[116, 114, 117, 101]⟩ : ByteArray) [.string (⟨#[116, 114, 117, 101]⟩ : ByteArray)] from rfl) (Reps.one (show Kd.M Kd.string _ _ _ (⟨#[102, 97, 108, 115, 101]⟩ : ByteArray) [.string (⟨#[102, 97, 108, 115, 101]⟩ : ByteArray)] from rfl) (Reps.none _ _)))))))))); intro W w2 G hb hg_ hnew_; clear hg_ hnew_; replace G := nW P G; have Q := rW G (bP0 HB); replace HB := hS0 HB hb; clear hb G))
 go_loopg [4] k (fun kq v4 w' => ∃ (z : Int), v4 = .int .i64 z ∧ Aside0 (tabardref04_Reserved.l0 kq O C z = some r) ∧ Aside0 (kq ≤ k) ∧ RA Kd.string 9 w' w W C ∧ BA w w')
 case atStart => exact ⟨(0), sI, H', ⟨Nat.le_refl _⟩, rQ Q, bT0 HB⟩
 case round =>
  clear H'
  obtain ⟨z, rfl, HA, HK1, D, HB⟩ := hrel; cases gk with
  | zero => exact absurd HA.out (by simp [tabardref04_Reserved.l0])
  | succ k1 =>
   have H := HA.out; clear HA; simp only [tabardref04_Reserved.l0] at H
   by_cases I : z < (C.length : Int)
   ·rw [if_pos I] at H; have Y := dT I; clear I
    by_cases U : 0 ≤ z
    ·rw [if_pos U] at H; have af := dT U; clear U
     by_cases L : (rdOf ByteArray.empty C z).toList = O.toList
     ·rw [if_pos L] at H; obtain ⟨Z, aa⟩ := bq L; clear L; obtain rfl := Option.some.inj H; obtain ⟨ag, ah, ab⟩ := sL D; subst ab; have A : 0 ≤ (z : Int) := oT aO; have B : z < (C.length : Int) := oT aO; obtain ⟨V, F, J⟩ := Kd.at_string (rR D).2.2 z A B; cases F; replace A := eq_true A; replace B := eq_true B
      go_wp2
      go_ret
      exact ⟨eW, bO HB.out⟩
     ·rw [if_neg L] at H; obtain ⟨Z, aa⟩ := bn L; have H' := aM H; clear H; obtain ⟨ai, aj, ac⟩ := sL D; subst ac; have A : 0 ≤ (z : Int) := oT aO; have B : z < (C.length : Int) := oT aO; obtain ⟨V, F, J⟩ := Kd.at_string (rR D).2.2 z A B; cases F; replace A := eq_true A; replace B := eq_true B
      go_wp2
      go_roundg k1
      case measure => have := HK1.out; omega
      case rel => exact ⟨(wrap64 (z + 1)), sI, H', ⟨by have := HK1.out; omega⟩, rQ D, bT0 HB⟩
    ·exact nX U H
   ·rw [if_neg I] at H; have Y := decide_eq_false I; clear I; obtain rfl := Option.some.inj H; obtain ⟨ak, al, ad⟩ := sL D; subst ad
    go_wp2
    go_ret
    exact ⟨eW, bO HB.out⟩

/-! ### tabardref04_Name: function 75 -/
def tabardref04_Name.l0 : Nat → ByteArray → Int → Int → Option (Bool)
 | 0, _, _, _ => none
 | k + 1, x0, x3, x4 => if x4 < (x0.size : Int) then ((tabardref04_Read.f k x0 x4).bind fun bt239 => (if bt239.2.2 = true then (if x3 = 0 then ((tabardref04_Start.f k bt239.1).bind fun t242 => (if t242 = true then ((tabardref04_Rest.f k bt239.1).bind fun t243 => (if t243 = true then (tabardref04_Name.l0 k x0 (wrap64 (x3 + 1)) (wrap64 (x4 + bt239.2.1))) else (some false))) else (some false))) else ((tabardref04_Rest.f k bt239.1).bind fun t244 => (if t244 = true then (tabardref04_Name.l0 k x0 (wrap64 (x3 + 1)) (wrap64 (x4 + bt239.2.1))) else (some false)))) else (some false))) else (if x3 ≥ 1 then (if x3 ≤ 16 then ((tabardref04_Reserved.f k x0).bind fun t238 => (some (!t238))) else (some false)) else (some false))
def tabardref04_Name.f (k : Nat) (a0 : ByteArray) : Option (Bool) := tabardref04_Name.l0 k a0 0 0
theorem tabardref04_Name.mono_l : ∀ k, (∀ y0 y1 y2, LeO (tabardref04_Name.l0 k y0 y1 y2) (tabardref04_Name.l0 (k + 1) y0 y1 y2))
 | 0 => fun _ _ _ r h => by simp [tabardref04_Name.l0] at h
 | k + 1 => by
  have ih0 := tabardref04_Name.mono_l k
  ·intro y0 y1 y2
   unfold tabardref04_Name.l0
   repeat' first | (with_reducible first | exact ih0 _ _ _ | exact tabardref04_Read.mono _ _ _ | exact tabardref04_Reserved.mono _ _ | exact tabardref04_Rest.mono _ _ | exact tabardref04_Start.mono _ _ | exact lA | apply lI | refine lB ?_ fun _ => ?_) | exact lN _ | apply lI | refine lB ?_ fun _ => ?_
theorem tabardref04_Name.mono : ∀ a0 k, LeO (tabardref04_Name.f k a0) (tabardref04_Name.f (k + 1) a0) := by
 intro a0 k; have ih0 := tabardref04_Name.mono_l k
 unfold tabardref04_Name.f
 repeat' first | (with_reducible first | exact ih0 _ _ _ | exact tabardref04_Read.mono _ _ _ | exact tabardref04_Reserved.mono _ _ | exact tabardref04_Rest.mono _ _ | exact tabardref04_Start.mono _ _ | exact lA | apply lI | refine lB ?_ fun _ => ?_) | exact lN _ | apply lI | refine lB ?_ fun _ => ?_
theorem tabardref04_Name.calls (k : Nat) (D : ByteArray) (r : Bool) (w : World) (h : tabardref04_Name.f k D = some r) :
  Calls Try.prog 75 #[.string D] w fun e w' => e = .returned (.bool r) ∧ Below w.heap.size w w' := by
 have HB := aM (Below.refl w.heap.size w); rw [tabardref04_Name.f] at h; have H := h; clear h; have H' := aM H; clear H
 go_enter Try.func75, Try.ntmps75
 go_wp2
 go_loopg [3, 4] k (fun kq v3 v4 w' => ∃ (B : Int) (z : Int), v3 = .int .i64 B ∧ v4 = .int .i64 z ∧ Aside0 (tabardref04_Name.l0 kq D B z = some r) ∧ Aside0 (kq ≤ k) ∧ BA w w')
 case atStart => exact ⟨(0), (0), sI, sI, H', ⟨Nat.le_refl _⟩, bT0 HB⟩
 case round =>
  clear H'; obtain ⟨B, z, rfl, rfl, HA, HK1, HB⟩ := hrel; cases gk with
  | zero => exact absurd HA.out (by simp [tabardref04_Name.l0])
  | succ k1 =>
   have H := HA.out; clear HA; simp only [tabardref04_Name.l0] at H
   by_cases O : z < (D.size : Int)
   ·rw [if_pos O] at H; have ah := dT O; clear O; replace H := Option.bind_eq_some_iff.mp H; obtain ⟨⟨A, C, Q⟩, ad, H⟩ := H; replace H : (if Q = true then (if B = 0 then ((tabardref04_Start.f k1 A).bind fun G => (if G = true then ((tabardref04_Rest.f k1 A).bind fun I => (if I = true then (tabardref04_Name.l0 k1 D (wrap64 (B + 1)) (wrap64 (z + C))) else (some false))) else (some false))) else ((tabardref04_Rest.f k1 A).bind fun J => (if J = true then (tabardref04_Name.l0 k1 D (wrap64 (B + 1)) (wrap64 (z + C))) else (some false)))) else (some false)) = some r := H; have P := aM ad; clear ad
    by_cases Y : Q = true
    ·subst Y
     rw [if_pos rfl] at H
     by_cases U : B = 0
     ·rw [if_pos U] at H; obtain ⟨ai, aj⟩ := bq U; clear U; replace H := Option.bind_eq_some_iff.mp H; obtain ⟨G, ae, H⟩ := H; have A6 := aM ae; clear ae
      by_cases Z : G = true
      ·subst Z
       rw [if_pos rfl] at H; replace H := Option.bind_eq_some_iff.mp H; obtain ⟨I, af, H⟩ := H; have A8 := aM af; clear af
       by_cases c9 : I = true
       ·subst c9
        rw [if_pos rfl] at H; have H' := aM H; clear H
        go_wp2_with (first | ((with_reducible refine gate_callee (f := 94) rfl ?_); refine gL_ (some 15) Try.func94 #[.string D, .int .i64 z] ?_; (with_reducible refine (tabardref04_Read.calls k1 D z A C true _ P.out).mono ?_); rintro e w' ⟨rfl, ⟨nd, rfl⟩⟩; refine ⟨_, rfl, ?_⟩) | (go_at_call 95; (with_reducible refine (tabardref04_Start.calls k1 A true _ A6.out).mono ?_); rintro e aq ⟨rfl, hb⟩; replace HB := hS0 HB hb; (try clear hb)) | (go_at_call 96; (with_reducible refine (tabardref04_Rest.calls k1 A true _ A8.out).mono ?_); rintro e ar ⟨rfl, hb⟩; replace HB := hS0 HB hb; (try clear hb)))
        go_roundg k1
        case measure => have := HK1.out; omega
        case rel => exact ⟨(wrap64 (B + 1)), (wrap64 (z + C)), sI, sI, H', ⟨by have := HK1.out; omega⟩, bT0 HB⟩
       ·replace c9 := Bool.eq_false_iff.mpr c9; subst c9
        rw [if_neg nF] at H; obtain rfl := Option.some.inj H
        go_wp2_with (first | ((with_reducible refine gate_callee (f := 94) rfl ?_); refine gL_ (some 15) Try.func94 #[.string D, .int .i64 z] ?_; (with_reducible refine (tabardref04_Read.calls k1 D z A C true _ P.out).mono ?_); rintro e w' ⟨rfl, ⟨nd, rfl⟩⟩; refine ⟨_, rfl, ?_⟩) | (go_at_call 95; (with_reducible refine (tabardref04_Start.calls k1 A true _ A6.out).mono ?_); rintro e au ⟨rfl, hb⟩; replace HB := hS0 HB hb; (try clear hb)) | (go_at_call 96; (with_reducible refine (tabardref04_Rest.calls k1 A false _ A8.out).mono ?_); rintro e av ⟨rfl, hb⟩; replace HB := hS0 HB hb; (try clear hb)))
        go_ret
        exact ⟨eW, bO HB.out⟩
      ·replace Z := Bool.eq_false_iff.mpr Z; subst Z
       rw [if_neg nF] at H; obtain rfl := Option.some.inj H
       go_wp2_with (first | ((with_reducible refine gate_callee (f := 94) rfl ?_); refine gL_ (some 15) Try.func94 #[.string D, .int .i64 z] ?_; (with_reducible refine (tabardref04_Read.calls k1 D z A C true _ P.out).mono ?_); rintro e w' ⟨rfl, ⟨nd, rfl⟩⟩; refine ⟨_, rfl, ?_⟩) | (go_at_call 95; (with_reducible refine (tabardref04_Start.calls k1 A false _ A6.out).mono ?_); rintro e aw ⟨rfl, hb⟩; replace HB := hS0 HB hb; (try clear hb)))
       go_ret
       exact ⟨eW, bO HB.out⟩
     ·rw [if_neg U] at H; obtain ⟨ai, aj⟩ := bn U; replace H := Option.bind_eq_some_iff.mp H; obtain ⟨J, V, H⟩ := H; have ag := aM V; clear V
      by_cases L : J = true
      ·subst L
       rw [if_pos rfl] at H; have H' := aM H; clear H
       go_wp2_with (first | ((with_reducible refine gate_callee (f := 94) rfl ?_); refine gL_ (some 15) Try.func94 #[.string D, .int .i64 z] ?_; (with_reducible refine (tabardref04_Read.calls k1 D z A C true _ P.out).mono ?_); rintro e w' ⟨rfl, ⟨nd, rfl⟩⟩; refine ⟨_, rfl, ?_⟩) | (go_at_call 96; (with_reducible refine (tabardref04_Rest.calls k1 A true _ ag.out).mono ?_); rintro e ax ⟨rfl, hb⟩; replace HB := hS0 HB hb; (try clear hb)))
       go_roundg k1
       case measure => have := HK1.out; omega
       case rel => exact ⟨(wrap64 (B + 1)), (wrap64 (z + C)), sI, sI, H', ⟨by have := HK1.out; omega⟩, bT0 HB⟩
      ·replace L := Bool.eq_false_iff.mpr L; subst L
       rw [if_neg nF] at H; obtain rfl := Option.some.inj H
       go_wp2_with (first | ((with_reducible refine gate_callee (f := 94) rfl ?_); refine gL_ (some 15) Try.func94 #[.string D, .int .i64 z] ?_; (with_reducible refine (tabardref04_Read.calls k1 D z A C true _ P.out).mono ?_); rintro e w' ⟨rfl, ⟨nd, rfl⟩⟩; refine ⟨_, rfl, ?_⟩) | (go_at_call 96; (with_reducible refine (tabardref04_Rest.calls k1 A false _ ag.out).mono ?_); rintro e ay ⟨rfl, hb⟩; replace HB := hS0 HB hb; (try clear hb)))
       go_ret
       exact ⟨eW, bO HB.out⟩
    ·replace Y := Bool.eq_false_iff.mpr Y; subst Y
     rw [if_neg nF] at H; obtain rfl := Option.some.inj H
     go_wp2_with (first | ((with_reducible refine gate_callee (f := 94) rfl ?_); refine gL_ (some 15) Try.func94 #[.string D, .int .i64 z] ?_; (with_reducible refine (tabardref04_Read.calls k1 D z A C false _ P.out).mono ?_); rintro e w' ⟨rfl, ⟨nd, rfl⟩⟩; refine ⟨_, rfl, ?_⟩))
     go_ret
     exact ⟨eW, bO HB.out⟩
   ·rw [if_neg O] at H; have ah := decide_eq_false O; clear O
    by_cases E : B ≥ 1
    ·rw [if_pos E] at H; have ab := dT E; clear E
     by_cases F : B ≤ 16
     ·rw [if_pos F] at H; have ac := dT F; clear F; replace H := Option.bind_eq_some_iff.mp H; obtain ⟨al, W, H⟩ := H; have an := aM W; clear W; obtain rfl := Option.some.inj H
      go_wp2_with (first | (go_at_call 97; (with_reducible refine (tabardref04_Reserved.calls k1 D al _ an.out).mono ?_); rintro e az ⟨rfl, hb⟩; replace HB := hS0 HB hb; (try clear hb)))
      go_ret
      exact ⟨eW, bO HB.out⟩
     ·rw [if_neg F] at H; have ac := decide_eq_false F; clear F; obtain rfl := Option.some.inj H
      go_wp2
      go_ret
      exact ⟨eW, bO HB.out⟩
    ·rw [if_neg E] at H; have ab := decide_eq_false E; clear E; obtain rfl := Option.some.inj H
     go_wp2
     go_ret
     exact ⟨eW, bO HB.out⟩

end Go.Proofs.Ythgoonohpfoagaa.X
