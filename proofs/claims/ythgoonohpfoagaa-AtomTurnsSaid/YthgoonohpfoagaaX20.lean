/- What the functions of this seat compute, and that the program's calls come to just that: written by this session's own program out of the translation; no condition. -/
import Derived.Test.YthgoonohpfoagaaX0
import Derived.Test.YthgoonohpfoagaaX18
import Derived.Test.YthgoonohpfoagaaX19
namespace Go.Proofs.Ythgoonohpfoagaa.X
open Go.RowKit Go.Proofs.YthgoonohpfoagaaW.PrintWords Go.Proofs.YthgoonohpfoagaaW.PrintLast Go.Proofs.YthgoonohpfoagaaW.PrintMore
attribute [local go_sem] max2_int min2_int max_two min_two max_three min_three max_four min_four
set_option linter.unusedVariables false
set_option linter.unusedSimpArgs false

/-! ### tabardref04_Reserved: function 97 -/
def tabardref04_Reserved.l0 : Nat → ByteArray → List ByteArray → Int → Option (Bool)
 | 0, _, _, _ => none
 | k + 1, x0, x3, x4 => if x4 < (x3.length : Int) then (if 0 ≤ x4 then (if (rdOf ByteArray.empty x3 x4).toList = x0.toList then (some true) else (tabardref04_Reserved.l0 k x0 x3 (wrap64 (x4 + 1)))) else (none)) else (some false)
def tabardref04_Reserved.f (k : Nat) (a0 : ByteArray) : Option (Bool) := tabardref04_Reserved.l0 k a0 (([(⟨#[97, 110, 100]⟩ : ByteArray), (⟨#[111, 114]⟩ : ByteArray), (⟨#[110, 111, 116]⟩ : ByteArray), (⟨#[101, 120]⟩ : ByteArray), (⟨#[97, 108, 108]⟩ : ByteArray), (⟨#[109, 111, 100]⟩ : ByteArray), (⟨#[116, 114, 117, 101]⟩ : ByteArray), (⟨#[102, 97, 108, 115, 101]⟩ : ByteArray)] : List ByteArray)) 0
theorem tabardref04_Reserved.mono_l : ∀ k, (∀ y0 y1 y2, LeO (tabardref04_Reserved.l0 k y0 y1 y2) (tabardref04_Reserved.l0 (k + 1) y0 y1 y2))
 | 0 => fun _ _ _ r h => by simp [tabardref04_Reserved.l0] at h
 | k + 1 => by
  have ih0 := tabardref04_Reserved.mono_l k
  ·intro y0 y1 y2
   unfold tabardref04_Reserved.l0
   repeat' first | (with_reducible first | exact ih0 _ _ _ | exact lA | apply lI | refine lB ?_ fun _ => ?_) | exact lN _ | apply lI | refine lB ?_ fun _ => ?_
theorem tabardref04_Reserved.mono : ∀ a0 k, LeO (tabardref04_Reserved.f k a0) (tabardref04_Reserved.f (k + 1) a0) := by
 intro a0 k; have ih0 := tabardref04_Reserved.mono_l k
 unfold tabardref04_Reserved.f
 repeat' first | (with_reducible first | exact ih0 _ _ _ | exact lA | apply lI | refine lB ?_ fun _ => ?_) | exact lN _ | apply lI | refine lB ?_ fun _ => ?_
set_option maxHeartbeats 8000000 in
set_option maxRecDepth 100000 in
theorem tabardref04_Reserved.calls (k : Nat) (a0 : ByteArray) (r : Bool) (w : World) (h : tabardref04_Reserved.f k a0 = some r) :
  Calls Try.prog 97 #[.string a0] w fun e w' => e = .returned (.bool r) ∧ Below w.heap.size w w' := by
 have HB := Aside0.mk (Below.refl w.heap.size w); have H : (tabardref04_Reserved.l0 k a0 (([(⟨#[97, 110, 100]⟩ : ByteArray), (⟨#[111, 114]⟩ : ByteArray), (⟨#[110, 111, 116]⟩ : ByteArray), (⟨#[101, 120]⟩ : ByteArray), (⟨#[97, 108, 108]⟩ : ByteArray), (⟨#[109, 111, 100]⟩ : ByteArray), (⟨#[116, 114, 117, 101]⟩ : ByteArray), (⟨#[102, 97, 108, 115, 101]⟩ : ByteArray)] : List ByteArray)) 0) = some r := h; clear h; obtain ⟨y234, hy234⟩ : ∃ y_ : List ByteArray, y_ = (([(⟨#[97, 110, 100]⟩ : ByteArray), (⟨#[111, 114]⟩ : ByteArray), (⟨#[110, 111, 116]⟩ : ByteArray), (⟨#[101, 120]⟩ : ByteArray), (⟨#[97, 108, 108]⟩ : ByteArray), (⟨#[109, 111, 100]⟩ : ByteArray), (⟨#[116, 114, 117, 101]⟩ : ByteArray), (⟨#[102, 97, 108, 115, 101]⟩ : ByteArray)] : List ByteArray)) := ⟨_, rfl⟩
 replace H : (tabardref04_Reserved.l0 k a0 y234 0) = some r := rH hy234 H
 have Ny234 := Aside0.mk hy234; clear hy234; have H' := Aside0.mk H; clear H
 go_enter Try.func97, Try.ntmps97
 go_wp2_with (first | ((with_reducible refine gate_dst (N := 5) rfl ?_); refine Kd.R_lit Kd.string _ 9 ?hg (N := 5) ?hd (xs := ([(⟨#[97, 110, 100]⟩ : ByteArray), (⟨#[111, 114]⟩ : ByteArray), (⟨#[110, 111, 116]⟩ : ByteArray), (⟨#[101, 120]⟩ : ByteArray), (⟨#[97, 108, 108]⟩ : ByteArray), (⟨#[109, 111, 100]⟩ : ByteArray), (⟨#[116, 114, 117, 101]⟩ : ByteArray), (⟨#[102, 97, 108, 115, 101]⟩ : ByteArray)] : List ByteArray)) (inner := [.string (⟨#[97, 110, 100]⟩ : ByteArray), .string (⟨#[111, 114]⟩ : ByteArray), .string (⟨#[110, 111, 116]⟩ : ByteArray), .string (⟨#[101, 120]⟩ : ByteArray), .string (⟨#[97, 108, 108]⟩ : ByteArray), .string (⟨#[109, 111, 100]⟩ : ByteArray), .string (⟨#[116, 114, 117, 101]⟩ : ByteArray), .string (⟨#[102, 97, 108, 115, 101]⟩ : ByteArray)]) (ok := fun _ => True) (okp := fun _ => True) ?hr ?hp (fun _ hk => hk) trivial (Below.refl _ _) (Nat.le_refl _) (by simp) ?_; (case hd => rfl); (case hg => rfl); (case hr => first | (go_simp; done) | (go_simp; rfl)); (case hp => exact (Reps.one (show Kd.M Kd.string _ _ _ (⟨#[97, 110, 100]⟩ : ByteArray) [.string (⟨#[97, 110, 100]⟩ : ByteArray)] from rfl) (Reps.one (show Kd.M Kd.string _ _ _ (⟨#[111, 114]⟩ : ByteArray) [.string (⟨#[111, 114]⟩ : ByteArray)] from rfl) (Reps.one (show Kd.M Kd.string _ _ _ (⟨#[110, 111, 116]⟩ : ByteArray) [.string (⟨#[110, 111, 116]⟩ : ByteArray)] from rfl) (Reps.one (show Kd.M Kd.string _ _ _ (⟨#[101, 120]⟩ : ByteArray) [.string (⟨#[101, 120]⟩ : ByteArray)] from rfl) (Reps.one (show Kd.M Kd.string _ _ _ (⟨#[97, 108, 108]⟩ : ByteArray) [.string (⟨#[97, 108, 108]⟩ : ByteArray)] from rfl) (Reps.one (show Kd.M Kd.string _ _ _ (⟨#[109, 111, 100]⟩ : ByteArray) [.string (⟨#[109, 111, 100]⟩ : ByteArray)] from rfl) (Reps.one (show Kd.M Kd.string _ _ _ (⟨#[116, 114, 117, 101]⟩ : ByteArray) [.string (⟨#[116, 114, 117, 101]⟩ : ByteArray)] from rfl) (Reps.one (show Kd.M Kd.string _ _ _ (⟨#[102, 97, 108, 115, 101]⟩ : ByteArray) [.string (⟨#[102, 97, 108, 115, 101]⟩ : ByteArray)] from rfl) (Reps.none _ _)))))))))); intro v235 w2 ho3 hb hg_ hnew_; clear hg_ hnew_; (first | rw [← Ny234.out] at ho3 | (simp only [Int.reduceToNat] at ho3; rw [← Ny234.out] at ho3)); have HO236 := rW ho3 (bO HB.out); replace HB := hS0 HB hb; clear hb ho3))
 go_loopg [4] k (fun kq v4 w' => ∃ (x4_1 : Int), v4 = .int .i64 x4_1 ∧ Aside0 (tabardref04_Reserved.l0 kq a0 y234 x4_1 = some r) ∧ Aside0 (kq ≤ k) ∧ Aside0 (Kd.R Kd.string 9 w' w.heap.size (fun _ => True) v235 y234) ∧ Aside0 (Below w.heap.size w w'))
 case atStart => exact ⟨(0), sI, H', ⟨Nat.le_refl _⟩, ⟨rO HO236.out⟩, ⟨bO HB.out⟩⟩
 case round =>
  clear H'
  try clear p2
  obtain ⟨x4_1, rfl, HA, HK1, HO_3, HB⟩ := hrel; cases gk with
  | zero => exact absurd HA.out (by simp [tabardref04_Reserved.l0])
  | succ k1 =>
   have H := HA.out; clear HA; simp only [tabardref04_Reserved.l0] at H
   by_cases c4 : x4_1 < (y234.length : Int)
   ·rw [if_pos c4] at H; have c4b0 := decide_eq_true c4; clear c4
    by_cases c5 : 0 ≤ x4_1
    ·rw [if_pos c5] at H; have c5b0 := decide_eq_true c5; clear c5
     by_cases c6 : (rdOf ByteArray.empty y234 x4_1).toList = a0.toList
     ·rw [if_pos c6] at H; obtain ⟨c6b0, c6b1⟩ := bq c6; clear c6; obtain rfl := Option.some.inj H; obtain ⟨Ao7, co7, eo7⟩ := Kd.R_slice HO_3.out; subst eo7; have p237 : 0 ≤ (x4_1 : Int) := of_decide_eq_true aO; have q237 : x4_1 < (y234.length : Int) := of_decide_eq_true aO; obtain ⟨ad237, e237, hx237_0⟩ := Kd.at_string (Kd.R_reads' HO_3.out).2.2 x4_1 p237 q237; cases e237; replace p237 := eq_true p237; replace q237 := eq_true q237
      go_wp2
      go_ret
      exact ⟨eW, bO HB.out⟩
     ·rw [if_neg c6] at H; obtain ⟨c6b0, c6b1⟩ := bn c6; have H' := Aside0.mk H; clear H; obtain ⟨Ao8, co8, eo8⟩ := Kd.R_slice HO_3.out; subst eo8; have p237 : 0 ≤ (x4_1 : Int) := of_decide_eq_true aO; have q237 : x4_1 < (y234.length : Int) := of_decide_eq_true aO; obtain ⟨ad237, e237, hx237_0⟩ := Kd.at_string (Kd.R_reads' HO_3.out).2.2 x4_1 p237 q237; cases e237; replace p237 := eq_true p237; replace q237 := eq_true q237
      go_wp2
      go_roundg k1
      case measure => have := HK1.out; omega
      case rel => exact ⟨(wrap64 (x4_1 + 1)), sI, H', ⟨by have := HK1.out; omega⟩, ⟨rO HO_3.out⟩, ⟨bO HB.out⟩⟩
    ·rw [if_neg c5] at H; exact absurd H (by simp)
   ·rw [if_neg c4] at H; have c4b0 := decide_eq_false c4; clear c4; obtain rfl := Option.some.inj H; obtain ⟨Ao9, co9, eo9⟩ := Kd.R_slice HO_3.out; subst eo9
    go_wp2
    go_ret
    exact ⟨eW, bO HB.out⟩

/-! ### tabardref04_Name: function 75 -/
def tabardref04_Name.l0 : Nat → ByteArray → Int → Int → Option (Bool)
 | 0, _, _, _ => none
 | k + 1, x0, x3, x4 => if x4 < (x0.size : Int) then ((tabardref04_Read.f k x0 x4).bind fun bt239 => (if bt239.2.2 = true then (if x3 = 0 then ((tabardref04_Start.f k bt239.1).bind fun t242 => (if t242 = true then ((tabardref04_Rest.f k bt239.1).bind fun t243 => (if t243 = true then (tabardref04_Name.l0 k x0 (wrap64 (x3 + 1)) (wrap64 (x4 + bt239.2.1))) else (some false))) else (some false))) else ((tabardref04_Rest.f k bt239.1).bind fun t244 => (if t244 = true then (tabardref04_Name.l0 k x0 (wrap64 (x3 + 1)) (wrap64 (x4 + bt239.2.1))) else (some false)))) else (some false))) else (if x3 ≥ 1 then (if x3 ≤ 16 then ((tabardref04_Reserved.f k x0).bind fun t238 => (some (!t238))) else (some false)) else (some false))
def tabardref04_Name.f (k : Nat) (a0 : ByteArray) : Option (Bool) := tabardref04_Name.l0 k a0 0 0
theorem tabardref04_Name.mono_l : ∀ k, (∀ y0 y1 y2, LeO (tabardref04_Name.l0 k y0 y1 y2) (tabardref04_Name.l0 (k + 1) y0 y1 y2))
 | 0 => fun _ _ _ r h => by simp [tabardref04_Name.l0] at h
 | k + 1 => by
  have ih0 := tabardref04_Name.mono_l k
  ·intro y0 y1 y2
   unfold tabardref04_Name.l0
   repeat' first | (with_reducible first | exact ih0 _ _ _ | exact tabardref04_Read.mono _ _ _ | exact tabardref04_Reserved.mono _ _ | exact tabardref04_Rest.mono _ _ | exact tabardref04_Start.mono _ _ | exact lA | apply lI | refine lB ?_ fun _ => ?_) | exact lN _ | apply lI | refine lB ?_ fun _ => ?_
theorem tabardref04_Name.mono : ∀ a0 k, LeO (tabardref04_Name.f k a0) (tabardref04_Name.f (k + 1) a0) := by
 intro a0 k; have ih0 := tabardref04_Name.mono_l k
 unfold tabardref04_Name.f
 repeat' first | (with_reducible first | exact ih0 _ _ _ | exact tabardref04_Read.mono _ _ _ | exact tabardref04_Reserved.mono _ _ | exact tabardref04_Rest.mono _ _ | exact tabardref04_Start.mono _ _ | exact lA | apply lI | refine lB ?_ fun _ => ?_) | exact lN _ | apply lI | refine lB ?_ fun _ => ?_
set_option maxHeartbeats 8000000 in
set_option maxRecDepth 100000 in
theorem tabardref04_Name.calls (k : Nat) (a0 : ByteArray) (r : Bool) (w : World) (h : tabardref04_Name.f k a0 = some r) :
  Calls Try.prog 75 #[.string a0] w fun e w' => e = .returned (.bool r) ∧ Below w.heap.size w w' := by
 have HB := Aside0.mk (Below.refl w.heap.size w); have H : (tabardref04_Name.l0 k a0 0 0) = some r := h; clear h; have H' := Aside0.mk H; clear H
 go_enter Try.func75, Try.ntmps75
 go_wp2
 go_loopg [3, 4] k (fun kq v3 v4 w' => ∃ (x3_1 : Int) (x4_1 : Int), v3 = .int .i64 x3_1 ∧ v4 = .int .i64 x4_1 ∧ Aside0 (tabardref04_Name.l0 kq a0 x3_1 x4_1 = some r) ∧ Aside0 (kq ≤ k) ∧ Aside0 (Below w.heap.size w w'))
 case atStart => exact ⟨(0), (0), sI, sI, H', ⟨Nat.le_refl _⟩, ⟨bO HB.out⟩⟩
 case round =>
  clear H'; obtain ⟨x3_1, x4_1, rfl, rfl, HA, HK1, HB⟩ := hrel; cases gk with
  | zero => exact absurd HA.out (by simp [tabardref04_Name.l0])
  | succ k1 =>
   have H := HA.out; clear HA; simp only [tabardref04_Name.l0] at H
   by_cases c2 : x4_1 < (a0.size : Int)
   ·rw [if_pos c2] at H; have c2b0 := decide_eq_true c2; clear c2; replace H := Option.bind_eq_some_iff.mp H; obtain ⟨⟨t239, t240, t241⟩, A30, H⟩ := H; replace H : (if t241 = true then (if x3_1 = 0 then ((tabardref04_Start.f k1 t239).bind fun t242 => (if t242 = true then ((tabardref04_Rest.f k1 t239).bind fun t243 => (if t243 = true then (tabardref04_Name.l0 k1 a0 (wrap64 (x3_1 + 1)) (wrap64 (x4_1 + t240))) else (some false))) else (some false))) else ((tabardref04_Rest.f k1 t239).bind fun t244 => (if t244 = true then (tabardref04_Name.l0 k1 a0 (wrap64 (x3_1 + 1)) (wrap64 (x4_1 + t240))) else (some false)))) else (some false)) = some r := H; have A3 := Aside0.mk A30; clear A30
    by_cases c4 : t241 = true
    ·subst c4
     have H1 : (if x3_1 = 0 then ((tabardref04_Start.f k1 t239).bind fun t242 => (if t242 = true then ((tabardref04_Rest.f k1 t239).bind fun t243 => (if t243 = true then (tabardref04_Name.l0 k1 a0 (wrap64 (x3_1 + 1)) (wrap64 (x4_1 + t240))) else (some false))) else (some false))) else ((tabardref04_Rest.f k1 t239).bind fun t244 => (if t244 = true then (tabardref04_Name.l0 k1 a0 (wrap64 (x3_1 + 1)) (wrap64 (x4_1 + t240))) else (some false)))) = some r := by rw [if_pos rfl] at H; exact H
     clear H; have H := H1; clear H1
     by_cases c5 : x3_1 = 0
     ·rw [if_pos c5] at H; obtain ⟨c5b0, c5b1⟩ := bq c5; clear c5; replace H := Option.bind_eq_some_iff.mp H; obtain ⟨t242, A60, H⟩ := H; replace H : (if t242 = true then ((tabardref04_Rest.f k1 t239).bind fun t243 => (if t243 = true then (tabardref04_Name.l0 k1 a0 (wrap64 (x3_1 + 1)) (wrap64 (x4_1 + t240))) else (some false))) else (some false)) = some r := H; have A6 := Aside0.mk A60; clear A60
      by_cases c7 : t242 = true
      ·subst c7
       have H1 : ((tabardref04_Rest.f k1 t239).bind fun t243 => (if t243 = true then (tabardref04_Name.l0 k1 a0 (wrap64 (x3_1 + 1)) (wrap64 (x4_1 + t240))) else (some false))) = some r := by rw [if_pos rfl] at H; exact H
       clear H; have H := H1; clear H1; replace H := Option.bind_eq_some_iff.mp H; obtain ⟨t243, A80, H⟩ := H; replace H : (if t243 = true then (tabardref04_Name.l0 k1 a0 (wrap64 (x3_1 + 1)) (wrap64 (x4_1 + t240))) else (some false)) = some r := H; have A8 := Aside0.mk A80; clear A80
       by_cases c9 : t243 = true
       ·subst c9
        have H1 : (tabardref04_Name.l0 k1 a0 (wrap64 (x3_1 + 1)) (wrap64 (x4_1 + t240))) = some r := by rw [if_pos rfl] at H; exact H
        clear H; have H := H1; clear H1; have H' := Aside0.mk H; clear H
        go_wp2_with (first | ((with_reducible refine gate_callee (f := 94) rfl ?_); refine gL_ (some 15) Try.func94 #[.string a0, .int .i64 x4_1] ?_; (with_reducible refine (tabardref04_Read.calls k1 a0 x4_1 t239 t240 true _ A3.out).mono ?_); rintro e w' ⟨rfl, ⟨nd, rfl⟩⟩; refine ⟨_, rfl, ?_⟩) | (go_at_call 95; (with_reducible refine (tabardref04_Start.calls k1 t239 true _ A6.out).mono ?_); rintro e w10 ⟨rfl, hb⟩; replace HB := hS0 HB hb; (try clear hb); (try clear hb2); (try clear hk); (try clear hi)) | (go_at_call 96; (with_reducible refine (tabardref04_Rest.calls k1 t239 true _ A8.out).mono ?_); rintro e w11 ⟨rfl, hb⟩; replace HB := hS0 HB hb; (try clear hb); (try clear hb2); (try clear hk); (try clear hi)))
        go_roundg k1
        case measure => have := HK1.out; omega
        case rel => exact ⟨(wrap64 (x3_1 + 1)), (wrap64 (x4_1 + t240)), sI, sI, H', ⟨by have := HK1.out; omega⟩, ⟨bO HB.out⟩⟩
       ·replace c9 := Bool.eq_false_iff.mpr c9; subst c9
        have H1 : (some false) = some r := by rw [if_neg (show ¬ (false = true) by decide)] at H; exact H
        clear H; have H := H1; clear H1; obtain rfl := Option.some.inj H
        go_wp2_with (first | ((with_reducible refine gate_callee (f := 94) rfl ?_); refine gL_ (some 15) Try.func94 #[.string a0, .int .i64 x4_1] ?_; (with_reducible refine (tabardref04_Read.calls k1 a0 x4_1 t239 t240 true _ A3.out).mono ?_); rintro e w' ⟨rfl, ⟨nd, rfl⟩⟩; refine ⟨_, rfl, ?_⟩) | (go_at_call 95; (with_reducible refine (tabardref04_Start.calls k1 t239 true _ A6.out).mono ?_); rintro e w12 ⟨rfl, hb⟩; replace HB := hS0 HB hb; (try clear hb); (try clear hb2); (try clear hk); (try clear hi)) | (go_at_call 96; (with_reducible refine (tabardref04_Rest.calls k1 t239 false _ A8.out).mono ?_); rintro e w13 ⟨rfl, hb⟩; replace HB := hS0 HB hb; (try clear hb); (try clear hb2); (try clear hk); (try clear hi)))
        go_ret
        exact ⟨eW, bO HB.out⟩
      ·replace c7 := Bool.eq_false_iff.mpr c7; subst c7
       have H1 : (some false) = some r := by rw [if_neg (show ¬ (false = true) by decide)] at H; exact H
       clear H; have H := H1; clear H1; obtain rfl := Option.some.inj H
       go_wp2_with (first | ((with_reducible refine gate_callee (f := 94) rfl ?_); refine gL_ (some 15) Try.func94 #[.string a0, .int .i64 x4_1] ?_; (with_reducible refine (tabardref04_Read.calls k1 a0 x4_1 t239 t240 true _ A3.out).mono ?_); rintro e w' ⟨rfl, ⟨nd, rfl⟩⟩; refine ⟨_, rfl, ?_⟩) | (go_at_call 95; (with_reducible refine (tabardref04_Start.calls k1 t239 false _ A6.out).mono ?_); rintro e w14 ⟨rfl, hb⟩; replace HB := hS0 HB hb; (try clear hb); (try clear hb2); (try clear hk); (try clear hi)))
       go_ret
       exact ⟨eW, bO HB.out⟩
     ·rw [if_neg c5] at H; obtain ⟨c5b0, c5b1⟩ := bn c5; replace H := Option.bind_eq_some_iff.mp H; obtain ⟨t244, A150, H⟩ := H; replace H : (if t244 = true then (tabardref04_Name.l0 k1 a0 (wrap64 (x3_1 + 1)) (wrap64 (x4_1 + t240))) else (some false)) = some r := H; have A15 := Aside0.mk A150; clear A150
      by_cases c16 : t244 = true
      ·subst c16
       have H1 : (tabardref04_Name.l0 k1 a0 (wrap64 (x3_1 + 1)) (wrap64 (x4_1 + t240))) = some r := by rw [if_pos rfl] at H; exact H
       clear H; have H := H1; clear H1; have H' := Aside0.mk H; clear H
       go_wp2_with (first | ((with_reducible refine gate_callee (f := 94) rfl ?_); refine gL_ (some 15) Try.func94 #[.string a0, .int .i64 x4_1] ?_; (with_reducible refine (tabardref04_Read.calls k1 a0 x4_1 t239 t240 true _ A3.out).mono ?_); rintro e w' ⟨rfl, ⟨nd, rfl⟩⟩; refine ⟨_, rfl, ?_⟩) | (go_at_call 96; (with_reducible refine (tabardref04_Rest.calls k1 t239 true _ A15.out).mono ?_); rintro e w17 ⟨rfl, hb⟩; replace HB := hS0 HB hb; (try clear hb); (try clear hb2); (try clear hk); (try clear hi)))
       go_roundg k1
       case measure => have := HK1.out; omega
       case rel => exact ⟨(wrap64 (x3_1 + 1)), (wrap64 (x4_1 + t240)), sI, sI, H', ⟨by have := HK1.out; omega⟩, ⟨bO HB.out⟩⟩
      ·replace c16 := Bool.eq_false_iff.mpr c16; subst c16
       have H1 : (some false) = some r := by rw [if_neg (show ¬ (false = true) by decide)] at H; exact H
       clear H; have H := H1; clear H1; obtain rfl := Option.some.inj H
       go_wp2_with (first | ((with_reducible refine gate_callee (f := 94) rfl ?_); refine gL_ (some 15) Try.func94 #[.string a0, .int .i64 x4_1] ?_; (with_reducible refine (tabardref04_Read.calls k1 a0 x4_1 t239 t240 true _ A3.out).mono ?_); rintro e w' ⟨rfl, ⟨nd, rfl⟩⟩; refine ⟨_, rfl, ?_⟩) | (go_at_call 96; (with_reducible refine (tabardref04_Rest.calls k1 t239 false _ A15.out).mono ?_); rintro e w18 ⟨rfl, hb⟩; replace HB := hS0 HB hb; (try clear hb); (try clear hb2); (try clear hk); (try clear hi)))
       go_ret
       exact ⟨eW, bO HB.out⟩
    ·replace c4 := Bool.eq_false_iff.mpr c4; subst c4
     have H1 : (some false) = some r := by rw [if_neg (show ¬ (false = true) by decide)] at H; exact H
     clear H; have H := H1; clear H1; obtain rfl := Option.some.inj H
     go_wp2_with (first | ((with_reducible refine gate_callee (f := 94) rfl ?_); refine gL_ (some 15) Try.func94 #[.string a0, .int .i64 x4_1] ?_; (with_reducible refine (tabardref04_Read.calls k1 a0 x4_1 t239 t240 false _ A3.out).mono ?_); rintro e w' ⟨rfl, ⟨nd, rfl⟩⟩; refine ⟨_, rfl, ?_⟩))
     go_ret
     exact ⟨eW, bO HB.out⟩
   ·rw [if_neg c2] at H; have c2b0 := decide_eq_false c2; clear c2
    by_cases c19 : x3_1 ≥ 1
    ·rw [if_pos c19] at H; have c19b0 := decide_eq_true c19; clear c19
     by_cases c20 : x3_1 ≤ 16
     ·rw [if_pos c20] at H; have c20b0 := decide_eq_true c20; clear c20; replace H := Option.bind_eq_some_iff.mp H; obtain ⟨t238, A210, H⟩ := H; replace H : (some (!t238)) = some r := H; have A21 := Aside0.mk A210; clear A210; obtain rfl := Option.some.inj H
      go_wp2_with (first | (go_at_call 97; (with_reducible refine (tabardref04_Reserved.calls k1 a0 t238 _ A21.out).mono ?_); rintro e w22 ⟨rfl, hb⟩; replace HB := hS0 HB hb; (try clear hb); (try clear hb2); (try clear hk); (try clear hi)))
      go_ret
      exact ⟨eW, bO HB.out⟩
     ·rw [if_neg c20] at H; have c20b0 := decide_eq_false c20; clear c20; obtain rfl := Option.some.inj H
      go_wp2
      go_ret
      exact ⟨eW, bO HB.out⟩
    ·rw [if_neg c19] at H; have c19b0 := decide_eq_false c19; clear c19; obtain rfl := Option.some.inj H
     go_wp2
     go_ret
     exact ⟨eW, bO HB.out⟩

end Go.Proofs.Ythgoonohpfoagaa.X
