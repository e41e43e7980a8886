/- What the functions of this seat compute, and that the program's calls come to just that: written by this session's own program out of the translation; no condition. -/
import Derived.Test.YtiakfdoaopfihaaX0
import Derived.Test.YtiakfdoaopfihaaX9
namespace Go.Proofs.Ytiakfdoaopfihaa.X
open Go.RowKit Go.Proofs.YtiakfdoaopfihaaW.PrintWords Go.Proofs.YtiakfdoaopfihaaW.PrintLast Go.Proofs.YtiakfdoaopfihaaW.PrintMore
attribute [local go_sem] max2_int min2_int max_two min_two max_three min_three max_four min_four   -- for this text's walks alone
set_option linter.unusedVariables false
set_option linter.unusedSimpArgs false

/-! ### tabardref11_same: function 32 -/
def tabardref11_same.l0 : Nat → List Int → List Int → Int → Option (Bool)
 | 0, _, _, _ => none
 | k + 1, x0, x1, x5 => if x5 < (x0.length : Int) then (if 0 ≤ x5 then (if x5 < (x1.length : Int) then (if (rd x0 x5) = (rd x1 x5) then (tabardref11_same.l0 k x0 x1 (wrap64 (x5 + 1))) else (some false)) else (none)) else (none)) else (some true)
def tabardref11_same.f (k : Nat) (l0 : List Int) (l1 : List Int) : Option (Bool) := tabardref11_same.l0 k l0 l1 0
theorem tabardref11_same.mono_l : ∀ k, (∀ y0 y1 y2, LeO (tabardref11_same.l0 k y0 y1 y2) (tabardref11_same.l0 (k + 1) y0 y1 y2))
 | 0 => fun _ _ _ r h => by simp [tabardref11_same.l0] at h
 | k + 1 => by
  have ih0 := tabardref11_same.mono_l k
  ·intro y0 y1 y2
   unfold tabardref11_same.l0
   repeat' first
   | (with_reducible exact ih0 _ _ _)
   | (with_reducible exact LeO.refl _)
   | (with_reducible exact LeO.none _)
   | (with_reducible refine LeO.ite ?_ ?_)
   | (with_reducible refine LeO.bind ?_ (fun _ => ?_))
   | exact ih0 _ _ _
   | exact LeO.none _
   | refine LeO.ite ?_ ?_
   | refine LeO.bind ?_ (fun _ => ?_)
theorem tabardref11_same.mono : ∀ a0 a1 k, LeO (tabardref11_same.f k a0 a1) (tabardref11_same.f (k + 1) a0 a1) := by
 intro a0 a1 k
 have ih0 := tabardref11_same.mono_l k
 unfold tabardref11_same.f
 repeat' first
   | (with_reducible exact ih0 _ _ _)
   | (with_reducible exact LeO.refl _)
   | (with_reducible exact LeO.none _)
   | (with_reducible refine LeO.ite ?_ ?_)
   | (with_reducible refine LeO.bind ?_ (fun _ => ?_))
   | exact ih0 _ _ _
   | exact LeO.none _
   | refine LeO.ite ?_ ?_
   | refine LeO.bind ?_ (fun _ => ?_)
set_option maxHeartbeats 8000000 in
set_option maxRecDepth 100000 in
theorem tabardref11_same.calls (k : Nat) (A0 : Option Addr) (c0 : Nat) (l0 : List Int) (A1 : Option Addr) (c1 : Nat) (l1 : List Int) (r : Bool) (w : World) (hr0 : Kd.C (Kd.int .i64) w A0 l0.length l0) (hc0 : l0.length ≤ c0) (hr1 : Kd.C (Kd.int .i64) w A1 l1.length l1) (hc1 : l1.length ≤ c1) (h : tabardref11_same.f k l0 l1 = some r) :
  Calls Try.prog 32 #[.slice A0 l0.length c0, .slice A1 l1.length c1] w fun e w' => e = .returned (.bool r) ∧ Drawn0 w w' := by
 have HR0 := Aside0.mk hr0
 have HC0 := Aside0.mk hc0
 clear hr0 hc0
 have HR1 := Aside0.mk hr1
 have HC1 := Aside0.mk hc1
 clear hr1 hc1
 have H : (tabardref11_same.l0 k l0 l1 0) = some r := h
 clear h
 have H' := Aside0.mk H
 clear H
 go_enter Try.func32, Try.ntmps32
 go_wp2
 repeat (go_quiet (fail); try go_wp2)
 go_loopg [5] k (fun kq v5 w' => ∃ (x5_1 : Int), v5 = .int .i64 x5_1 ∧ Aside0 (tabardref11_same.l0 kq l0 l1 x5_1 = some r) ∧ Aside0 (kq ≤ k) ∧ Drawn0 w w')
 case atStart => exact ⟨(0), (by first | rfl | (simp; done) | (simp [*]; done)), H', ⟨Nat.le_refl _⟩, by repeat (first | exact Drawn0.refl _ | apply Drawn0.step)⟩
 case round =>
  clear H'
  try clear c1
  try clear p2
  obtain ⟨x5_1, rfl, HA, HK1, ⟨m1, rfl⟩⟩ := hrel
  cases gk with
  | zero => exact absurd HA.out (by simp [tabardref11_same.l0])
  | succ k1 =>
   have H := HA.out
   clear HA
   simp only [tabardref11_same.l0] at H
   by_cases c3 : x5_1 < (l0.length : Int)
   ·rw [if_pos c3] at H
    have c3b0 : decide (x5_1 < (l0.length : Int)) = true := decide_eq_true c3
    clear c3
    by_cases c4 : 0 ≤ x5_1
    ·rw [if_pos c4] at H
     have c4b0 : decide (0 ≤ x5_1) = true := decide_eq_true c4
     clear c4
     by_cases c5 : x5_1 < (l1.length : Int)
     ·rw [if_pos c5] at H
      have c5b0 : decide (x5_1 < (l1.length : Int)) = true := decide_eq_true c5
      clear c5
      by_cases c6 : (rd l0 x5_1) = (rd l1 x5_1)
      ·rw [if_pos c6] at H
       have c6b0 : ((rd l0 x5_1) == (rd l1 x5_1)) = true := beq_iff_eq.mpr c6
       have c6b1 : ((rd l0 x5_1) != (rd l1 x5_1)) = false := bne_eq_false_iff_eq.mpr c6
       clear c6
       have H' := Aside0.mk H
       clear H
       have p173 : 0 ≤ (x5_1 : Int) := of_decide_eq_true aO
       have q173 : x5_1 < (l0.length : Int) := of_decide_eq_true aO
       obtain ⟨ad173, e173, hx173_0⟩ := Kd.at_int HR0.out x5_1 p173 q173
       cases e173
       replace p173 := eq_true p173
       replace q173 := eq_true q173
       have p174 : 0 ≤ (x5_1 : Int) := of_decide_eq_true aO
       have q174 : x5_1 < (l1.length : Int) := of_decide_eq_true aO
       obtain ⟨ad174, e174, hx174_0⟩ := Kd.at_int HR1.out x5_1 p174 q174
       cases e174
       replace p174 := eq_true p174
       replace q174 := eq_true q174
       go_wp2
       repeat (go_quiet (fail); try go_wp2)
       go_roundg k1
       case measure => have := HK1.out; omega
       case rel => exact ⟨(wrap64 (x5_1 + 1)), (by first | rfl | (simp; done) | (simp [*]; done)), H', ⟨by have := HK1.out; omega⟩, by repeat (first | exact Drawn0.refl _ | apply Drawn0.step)⟩
      ·rw [if_neg c6] at H
       have c6b0 : ((rd l0 x5_1) == (rd l1 x5_1)) = false := beq_eq_false_iff_ne.mpr c6
       have c6b1 : ((rd l0 x5_1) != (rd l1 x5_1)) = true := bne_iff_ne.mpr c6
       obtain rfl := Option.some.inj H
       have p173 : 0 ≤ (x5_1 : Int) := of_decide_eq_true aO
       have q173 : x5_1 < (l0.length : Int) := of_decide_eq_true aO
       obtain ⟨ad173, e173, hx173_0⟩ := Kd.at_int HR0.out x5_1 p173 q173
       cases e173
       replace p173 := eq_true p173
       replace q173 := eq_true q173
       have p174 : 0 ≤ (x5_1 : Int) := of_decide_eq_true aO
       have q174 : x5_1 < (l1.length : Int) := of_decide_eq_true aO
       obtain ⟨ad174, e174, hx174_0⟩ := Kd.at_int HR1.out x5_1 p174 q174
       cases e174
       replace p174 := eq_true p174
       replace q174 := eq_true q174
       go_wp2
       repeat (go_quiet (fail); try go_wp2)
       go_ret
       exact ⟨by first | rfl | (simp; done) | (simp [*]; done), by repeat (first | exact Drawn0.refl _ | apply Drawn0.step)⟩
     ·rw [if_neg c5] at H
      exact absurd H (by simp)
    ·rw [if_neg c4] at H
     exact absurd H (by simp)
   ·rw [if_neg c3] at H
    have c3b0 : decide (x5_1 < (l0.length : Int)) = false := decide_eq_false c3
    clear c3
    obtain rfl := Option.some.inj H
    go_wp2
    repeat (go_quiet (fail); try go_wp2)
    go_ret
    exact ⟨by first | rfl | (simp; done) | (simp [*]; done), by repeat (first | exact Drawn0.refl _ | apply Drawn0.step)⟩

/-! ### tabardref11_Cubes: function 25 -/
def tabardref11_Cubes.f : Nat → List Int → Int → Int → Option ((List (S31)))
 | 0, _, _, _ => none
 | k + 1, l0, a1, a2 => if (l0.length : Int) = 1 then (if 0 < (l0.length : Int) then (some (([(⟨a1, a2, rd l0 0⟩ : S31)] : List (S31)))) else (none)) else ((tabardref11_half.f k l0 0).bind fun t179 => ((tabardref11_half.f k l0 1).bind fun t182 => ((tabardref11_same.f k t179 t182).bind fun t185 => (if t185 = true then ((tabardref11_Cubes.f k t179 a1 a2).bind fun t186 => (some t186)) else ((tabardref11_Cubes.f k t179 (wrap64 (a1 + (t179.length : Int))) a2).bind fun t189 => ((tabardref11_Cubes.f k t182 (wrap64 (a1 + (t179.length : Int))) (wrap64 (a2 + (t179.length : Int)))).bind fun t192 => (if t189.length + t192.length < 5864062014805 then (some (t189 ++ t192)) else (none))))))))
theorem tabardref11_Cubes.mono_l : ∀ k, (∀ y0 y1 y2, LeO (tabardref11_Cubes.f k y0 y1 y2) (tabardref11_Cubes.f (k + 1) y0 y1 y2))
 | 0 => fun _ _ _ r h => by simp [tabardref11_Cubes.f] at h
 | k + 1 => by
  have ih0 := tabardref11_Cubes.mono_l k
  ·intro y0 y1 y2
   unfold tabardref11_Cubes.f
   repeat' first
   | (with_reducible exact ih0 _ _ _)
   | (with_reducible exact tabardref11_half.mono _ _ _)
   | (with_reducible exact tabardref11_same.mono _ _ _)
   | (with_reducible exact LeO.refl _)
   | (with_reducible exact LeO.none _)
   | (with_reducible refine LeO.ite ?_ ?_)
   | (with_reducible refine LeO.bind ?_ (fun _ => ?_))
   | exact ih0 _ _ _
   | exact tabardref11_half.mono _ _ _
   | exact tabardref11_same.mono _ _ _
   | exact LeO.none _
   | refine LeO.ite ?_ ?_
   | refine LeO.bind ?_ (fun _ => ?_)
theorem tabardref11_Cubes.mono : ∀ a0 a1 a2 k, LeO (tabardref11_Cubes.f k a0 a1 a2) (tabardref11_Cubes.f (k + 1) a0 a1 a2) := by
 intro a0 a1 a2 k
 have ih0 := tabardref11_Cubes.mono_l k
 exact ih0 a0 a1 a2
set_option maxHeartbeats 8000000 in
set_option maxRecDepth 100000 in
theorem tabardref11_Cubes.calls (k : Nat) : ∀ (A0 : Option Addr) (c0 : Nat) (l0 : List Int) (a1 : Int) (a2 : Int) (r : List (S31)) (w : World) (hr0 : Kd.C (Kd.int .i64) w A0 l0.length l0) (hc0 : l0.length ≤ c0) (h : tabardref11_Cubes.f k l0 a1 a2 = some r),
  Calls Try.prog 25 #[.slice A0 l0.length c0, .int .i64 a1, .int .i64 a2] w fun e w' => ∃ v0_ : Value, e = .returned (v0_) ∧ Kd.R k31 31 w' w.heap.size (fun _ => True) v0_ r ∧ Below w.heap.size w w' := by
 induction k using Nat.strongRecOn with
 | _ k ih =>
 intro A0 c0 l0 a1 a2 r w hr0 hc0 h
 cases k with
 | zero => exact absurd h (by simp [tabardref11_Cubes.f])
 | succ k =>
 simp only [tabardref11_Cubes.f] at h
 have hu31 := Try.underlying31
 have HR0 := Aside0.mk hr0
 have HC0 := Aside0.mk hc0
 clear hr0 hc0
 have HB := Aside0.mk (Below.refl w.heap.size w)
 have H : (if (l0.length : Int) = 1 then (if 0 < (l0.length : Int) then (some (([(⟨a1, a2, rd l0 0⟩ : S31)] : List (S31)))) else (none)) else ((tabardref11_half.f k l0 0).bind fun t179 => ((tabardref11_half.f k l0 1).bind fun t182 => ((tabardref11_same.f k t179 t182).bind fun t185 => (if t185 = true then ((tabardref11_Cubes.f k t179 a1 a2).bind fun t186 => (some t186)) else ((tabardref11_Cubes.f k t179 (wrap64 (a1 + (t179.length : Int))) a2).bind fun t189 => ((tabardref11_Cubes.f k t182 (wrap64 (a1 + (t179.length : Int))) (wrap64 (a2 + (t179.length : Int)))).bind fun t192 => (if t189.length + t192.length < 5864062014805 then (some (t189 ++ t192)) else (none))))))))) = some r := h
 clear h
 by_cases c4 : (l0.length : Int) = 1
 ·rw [if_pos c4] at H
  have c4b0 : ((l0.length : Int) == 1) = true := beq_iff_eq.mpr c4
  have c4b1 : ((l0.length : Int) != 1) = false := bne_eq_false_iff_eq.mpr c4
  clear c4
  by_cases c5 : 0 < (l0.length : Int)
  ·rw [if_pos c5] at H
   have c5b0 : decide (0 < (l0.length : Int)) = true := decide_eq_true c5
   have c5b1 : decide (0 < l0.length) = true := decide_eq_true (by omega)
   clear c5
   obtain ⟨y176, hy176⟩ : ∃ y_ : List (S31), y_ = (([(⟨a1, a2, rd l0 0⟩ : S31)] : List (S31))) := ⟨_, rfl⟩
   replace H : (some y176) = some r := by first | (rw [hy176]; with_reducible exact H) | (have H2_ := (Option.bind_some _ _).symm.trans H; rw [hy176]; with_reducible exact H2_) | (have H2_ := (Option.bind_some _ _).symm.trans H; with_reducible exact H2_) | with_reducible exact H | (rw [hy176]; exact H) | exact H
   have Ny176 := Aside0.mk hy176
   clear hy176
   obtain rfl := Option.some.inj H
   have p175 : 0 ≤ (0 : Int) := (by omega)
   have q175 : 0 < (l0.length : Int) := of_decide_eq_true aO
   obtain ⟨ad175, e175, hx175_0⟩ := Kd.at_int HR0.out 0 p175 q175
   cases e175
   have qi175 : (0 < l0.length) = True := eq_true (by omega)
   (try rw [show ((0 : Int)).toNat = 0 from rfl] at hx175_0)
   (try rw [Addr.add_zero'] at hx175_0)
   replace p175 := eq_true p175
   replace q175 := eq_true q175
   go_enter Try.func25, Try.ntmps25
   go_wp2_with (first | ((with_reducible refine gate_dst (N := 20) rfl ?_); refine Kd.R_lit k31 _ 31 ?hg (N := 20) ?hd (xs := ([(⟨a1, a2, rd l0 0⟩ : S31)] : List (S31))) (inner := [.int .i64 a1, .int .i64 a2, .int .i64 (rd l0 0)]) (ok := fun _ => True) (okp := fun _ => True) ?hr ?hp (fun _ hk => hk) trivial (Below.refl _ _) (Nat.le_refl _) (by simp) ?_; (case hd => rfl); (case hg => rfl); (case hr => first | (go_simp; done) | (go_simp; rfl)); (case hp => exact (Reps.c3 (show Kd.M k31 _ _ _ (⟨a1, a2, rd l0 0⟩ : S31) [.int .i64 a1, .int .i64 a2, .int .i64 (rd l0 0)] from (k31_mkM _ _ _ (⟨a1, a2, rd l0 0⟩ : S31) )) (Reps.none _ _))); intro v177 w6 ho7 hb hg_ hnew_; clear hg_ hnew_; (first | rw [← Ny176.out] at ho7 | (simp only [Int.reduceToNat] at ho7; rw [← Ny176.out] at ho7)); have n0_ := Aside0.mk (Kd.R_lower ho7 (below_size (bO HB.out))); have n1_ := Aside0.mk (below_step (bO HB.out) hb); clear HB; have HO178 := n0_; have HB := n1_; clear n0_ n1_; clear hb ho7))
   go_ret
   exact ⟨_, by first | rfl | (simp [errW_none, errW_some] <;> rfl) | (simp [*, errW_none, errW_some] <;> rfl), rO HO178.out, bO HB.out⟩
  ·rw [if_neg c5] at H
   exact absurd H (by simp)
 ·rw [if_neg c4] at H
  have c4b0 : ((l0.length : Int) == 1) = false := beq_eq_false_iff_ne.mpr c4
  have c4b1 : ((l0.length : Int) != 1) = true := bne_iff_ne.mpr c4
  replace H := Option.bind_eq_some_iff.mp H
  obtain ⟨t179, A80, H⟩ := H
  replace H : ((tabardref11_half.f k l0 1).bind fun t182 => ((tabardref11_same.f k t179 t182).bind fun t185 => (if t185 = true then ((tabardref11_Cubes.f k t179 a1 a2).bind fun t186 => (some t186)) else ((tabardref11_Cubes.f k t179 (wrap64 (a1 + (t179.length : Int))) a2).bind fun t189 => ((tabardref11_Cubes.f k t182 (wrap64 (a1 + (t179.length : Int))) (wrap64 (a2 + (t179.length : Int)))).bind fun t192 => (if t189.length + t192.length < 5864062014805 then (some (t189 ++ t192)) else (none))))))) = some r := H
  have A8 := Aside0.mk A80
  clear A80
  replace H := Option.bind_eq_some_iff.mp H
  obtain ⟨t182, A90, H⟩ := H
  replace H : ((tabardref11_same.f k t179 t182).bind fun t185 => (if t185 = true then ((tabardref11_Cubes.f k t179 a1 a2).bind fun t186 => (some t186)) else ((tabardref11_Cubes.f k t179 (wrap64 (a1 + (t179.length : Int))) a2).bind fun t189 => ((tabardref11_Cubes.f k t182 (wrap64 (a1 + (t179.length : Int))) (wrap64 (a2 + (t179.length : Int)))).bind fun t192 => (if t189.length + t192.length < 5864062014805 then (some (t189 ++ t192)) else (none)))))) = some r := H
  have A9 := Aside0.mk A90
  clear A90
  replace H := Option.bind_eq_some_iff.mp H
  obtain ⟨t185, A100, H⟩ := H
  replace H : (if t185 = true then ((tabardref11_Cubes.f k t179 a1 a2).bind fun t186 => (some t186)) else ((tabardref11_Cubes.f k t179 (wrap64 (a1 + (t179.length : Int))) a2).bind fun t189 => ((tabardref11_Cubes.f k t182 (wrap64 (a1 + (t179.length : Int))) (wrap64 (a2 + (t179.length : Int)))).bind fun t192 => (if t189.length + t192.length < 5864062014805 then (some (t189 ++ t192)) else (none))))) = some r := H
  have A10 := Aside0.mk A100
  clear A100
  by_cases c11 : t185 = true
  ·subst c11
   have H1 : ((tabardref11_Cubes.f k t179 a1 a2).bind fun t186 => (some t186)) = some r := by rw [if_pos rfl] at H; exact H
   clear H
   have H := H1
   clear H1
   replace H := Option.bind_eq_some_iff.mp H
   obtain ⟨t186, A120, H⟩ := H
   replace H : (some t186) = some r := H
   have A12 := Aside0.mk A120
   clear A120
   obtain rfl := Option.some.inj H
   go_enter Try.func25, Try.ntmps25
   go_wp2_with (first | ((with_reducible refine gate_callee (f := 31) rfl ?_); refine goesL_ (some 22) rfl rfl Try.func31 (by kernel_rfl) rfl #[.slice A0 l0.length c0, .int .i64 0] rfl mO ?_; (with_reducible refine (tabardref11_half.calls k _ _ l0 0 t179 _ ?side1 ?side2 A8.out).mono ?_); (case side1 => exact cO HR0.out); (case side2 => exact HC0.out); rintro e w13 ⟨v180, rfl, ho0, hb⟩; refine ⟨_, rfl, ?_⟩; have n0_ := Aside0.mk (Kd.R_lower ho0 (below_size (bO HB.out))); have n1_ := Aside0.mk (below_step (bO HB.out) hb); clear HB; have HO181 := n0_; have HB := n1_; clear n0_ n1_; (try clear hb); (try clear hb2); (try clear hk); (try clear hi); (try clear ho0)) | ((with_reducible refine gate_callee (f := 31) rfl ?_); refine goesL_ (some 24) rfl rfl Try.func31 (by kernel_rfl) rfl #[.slice A0 l0.length c0, .int .i64 1] rfl mO ?_; (with_reducible refine (tabardref11_half.calls k _ _ l0 1 t182 _ ?side1 ?side2 A9.out).mono ?_); (case side1 => exact cO (Kd.C_below HR0.out HB.out)); (case side2 => exact HC0.out); rintro e w14 ⟨v183, rfl, ho0, hb⟩; refine ⟨_, rfl, ?_⟩; have n0_ := Aside0.mk (Kd.R_elder' (rO HO181.out) (Kd.R_base ho0) hb); have n1_ := Aside0.mk (Kd.R_lower (Kd.R_new' ho0 (Kd.R_lt (rO HO181.out))) (below_size (bO HB.out))); have n2_ := Aside0.mk (below_step (bO HB.out) hb); clear HO181; clear HB; have HO181 := n0_; have HO184 := n1_; have HB := n2_; clear n0_ n1_ n2_; (try clear hb); (try clear hb2); (try clear hk); (try clear hi); (try clear ho0); obtain ⟨Ao15, co15, eo15⟩ := Kd.R_slice HO181.out; subst eo15; obtain ⟨Ao16, co16, eo16⟩ := Kd.R_slice HO184.out; subst eo16) | ((with_reducible refine gate_callee (f := 32) rfl ?_); refine goesL_ (some 27) rfl rfl Try.func32 (by kernel_rfl) rfl #[.slice Ao15 t179.length co15, .slice Ao16 t182.length co16] rfl mO ?_; (with_reducible refine (tabardref11_same.calls k _ _ t179 _ _ t182 true _ ?side1 ?side2 ?side3 ?side4 A10.out).mono ?_); (case side1 => exact cO (Kd.R_reads' HO181.out).2.2); (case side2 => exact (Kd.R_reads' HO181.out).2.1); (case side3 => exact cO (Kd.R_reads' HO184.out).2.2); (case side4 => exact (Kd.R_reads' HO184.out).2.1); rintro e w' ⟨rfl, ⟨nd, rfl⟩⟩; refine ⟨_, rfl, ?_⟩) | ((with_reducible refine gate_callee (f := 25) rfl ?_); refine goesL_ (some 31) rfl rfl Try.func25 (by kernel_rfl) rfl #[.slice Ao15 t179.length co15, .int .i64 a1, .int .i64 a2] rfl mO ?_; (with_reducible refine (ih k (by omega) _ _ t179 a1 a2 t186 _ ?side1 ?side2 A12.out).mono ?_); (case side1 => exact cO (Kd.R_reads' HO181.out).2.2); (case side2 => exact (Kd.R_reads' HO181.out).2.1); rintro e w17 ⟨v187, rfl, ho0, hb⟩; refine ⟨_, rfl, ?_⟩; have n0_ := Aside0.mk (Kd.R_below (rO HO181.out) hb); have n1_ := Aside0.mk (Kd.R_below (rO HO184.out) hb); have n2_ := Aside0.mk (Kd.R_lower ho0 (below_size (bO HB.out))); have n3_ := Aside0.mk (below_step (bO HB.out) hb); clear HO181; clear HO184; clear HB; have HO181 := n0_; have HO184 := n1_; have HO188 := n2_; have HB := n3_; clear n0_ n1_ n2_ n3_; (try clear hb); (try clear hb2); (try clear hk); (try clear hi); (try clear ho0)))
   go_ret
   exact ⟨_, by first | rfl | (simp [errW_none, errW_some] <;> rfl) | (simp [*, errW_none, errW_some] <;> rfl), rO HO188.out, bO HB.out⟩
  ·replace c11 := Bool.eq_false_iff.mpr c11
   subst c11
   have H1 : ((tabardref11_Cubes.f k t179 (wrap64 (a1 + (t179.length : Int))) a2).bind fun t189 => ((tabardref11_Cubes.f k t182 (wrap64 (a1 + (t179.length : Int))) (wrap64 (a2 + (t179.length : Int)))).bind fun t192 => (if t189.length + t192.length < 5864062014805 then (some (t189 ++ t192)) else (none)))) = some r := by rw [if_neg (show ¬ (false = true) by decide)] at H; exact H
   clear H
   have H := H1
   clear H1
   replace H := Option.bind_eq_some_iff.mp H
   obtain ⟨t189, A180, H⟩ := H
   replace H : ((tabardref11_Cubes.f k t182 (wrap64 (a1 + (t179.length : Int))) (wrap64 (a2 + (t179.length : Int)))).bind fun t192 => (if t189.length + t192.length < 5864062014805 then (some (t189 ++ t192)) else (none))) = some r := H
   have A18 := Aside0.mk A180
   clear A180
   replace H := Option.bind_eq_some_iff.mp H
   obtain ⟨t192, A190, H⟩ := H
   replace H : (if t189.length + t192.length < 5864062014805 then (some (t189 ++ t192)) else (none)) = some r := H
   have A19 := Aside0.mk A190
   clear A190
   by_cases c20 : t189.length + t192.length < 5864062014805
   ·rw [if_pos c20] at H
    have LMc20 := Aside0.mk c20
    clear c20
    obtain ⟨y195, hy195⟩ : ∃ y_ : List (S31), y_ = (t189 ++ t192) := ⟨_, rfl⟩
    replace H : (some y195) = some r := by first | (rw [hy195]; with_reducible exact H) | (have H2_ := (Option.bind_some _ _).symm.trans H; rw [hy195]; with_reducible exact H2_) | (have H2_ := (Option.bind_some _ _).symm.trans H; with_reducible exact H2_) | with_reducible exact H | (rw [hy195]; exact H) | exact H
    have Ny195 := Aside0.mk hy195
    clear hy195
    obtain rfl := Option.some.inj H
    go_enter Try.func25, Try.ntmps25
    go_wp2_with (first | ((with_reducible refine gate_callee (f := 31) rfl ?_); refine goesL_ (some 22) rfl rfl Try.func31 (by kernel_rfl) rfl #[.slice A0 l0.length c0, .int .i64 0] rfl mO ?_; (with_reducible refine (tabardref11_half.calls k _ _ l0 0 t179 _ ?side1 ?side2 A8.out).mono ?_); (case side1 => exact cO HR0.out); (case side2 => exact HC0.out); rintro e w21 ⟨v180, rfl, ho0, hb⟩; refine ⟨_, rfl, ?_⟩; have n0_ := Aside0.mk (Kd.R_lower ho0 (below_size (bO HB.out))); have n1_ := Aside0.mk (below_step (bO HB.out) hb); clear HB; have HO181 := n0_; have HB := n1_; clear n0_ n1_; (try clear hb); (try clear hb2); (try clear hk); (try clear hi); (try clear ho0)) | ((with_reducible refine gate_callee (f := 31) rfl ?_); refine goesL_ (some 24) rfl rfl Try.func31 (by kernel_rfl) rfl #[.slice A0 l0.length c0, .int .i64 1] rfl mO ?_; (with_reducible refine (tabardref11_half.calls k _ _ l0 1 t182 _ ?side1 ?side2 A9.out).mono ?_); (case side1 => exact cO (Kd.C_below HR0.out HB.out)); (case side2 => exact HC0.out); rintro e w22 ⟨v183, rfl, ho0, hb⟩; refine ⟨_, rfl, ?_⟩; have n0_ := Aside0.mk (Kd.R_elder' (rO HO181.out) (Kd.R_base ho0) hb); have n1_ := Aside0.mk (Kd.R_lower (Kd.R_new' ho0 (Kd.R_lt (rO HO181.out))) (below_size (bO HB.out))); have n2_ := Aside0.mk (below_step (bO HB.out) hb); clear HO181; clear HB; have HO181 := n0_; have HO184 := n1_; have HB := n2_; clear n0_ n1_ n2_; (try clear hb); (try clear hb2); (try clear hk); (try clear hi); (try clear ho0); obtain ⟨Ao23, co23, eo23⟩ := Kd.R_slice HO181.out; subst eo23; obtain ⟨Ao24, co24, eo24⟩ := Kd.R_slice HO184.out; subst eo24) | ((with_reducible refine gate_callee (f := 32) rfl ?_); refine goesL_ (some 27) rfl rfl Try.func32 (by kernel_rfl) rfl #[.slice Ao23 t179.length co23, .slice Ao24 t182.length co24] rfl mO ?_; (with_reducible refine (tabardref11_same.calls k _ _ t179 _ _ t182 false _ ?side1 ?side2 ?side3 ?side4 A10.out).mono ?_); (case side1 => exact cO (Kd.R_reads' HO181.out).2.2); (case side2 => exact (Kd.R_reads' HO181.out).2.1); (case side3 => exact cO (Kd.R_reads' HO184.out).2.2); (case side4 => exact (Kd.R_reads' HO184.out).2.1); rintro e w' ⟨rfl, ⟨nd, rfl⟩⟩; refine ⟨_, rfl, ?_⟩) | ((with_reducible refine gate_callee (f := 25) rfl ?_); refine goesL_ (some 39) rfl rfl Try.func25 (by kernel_rfl) rfl #[.slice Ao23 t179.length co23, .int .i64 (wrap64 (a1 + (t179.length : Int))), .int .i64 a2] rfl mO ?_; (with_reducible refine (ih k (by omega) _ _ t179 (wrap64 (a1 + (t179.length : Int))) a2 t189 _ ?side1 ?side2 A18.out).mono ?_); (case side1 => exact cO (Kd.R_reads' HO181.out).2.2); (case side2 => exact (Kd.R_reads' HO181.out).2.1); rintro e w25 ⟨v190, rfl, ho0, hb⟩; refine ⟨_, rfl, ?_⟩; have n0_ := Aside0.mk (Kd.R_below (rO HO181.out) hb); have n1_ := Aside0.mk (Kd.R_below (rO HO184.out) hb); have n2_ := Aside0.mk (Kd.R_lower ho0 (below_size (bO HB.out))); have n3_ := Aside0.mk (below_step (bO HB.out) hb); clear HO181; clear HO184; clear HB; have HO181 := n0_; have HO184 := n1_; have HO191 := n2_; have HB := n3_; clear n0_ n1_ n2_ n3_; (try clear hb); (try clear hb2); (try clear hk); (try clear hi); (try clear ho0)) | ((with_reducible refine gate_callee (f := 25) rfl ?_); refine goesL_ (some 48) rfl rfl Try.func25 (by kernel_rfl) rfl #[.slice Ao24 t182.length co24, .int .i64 (wrap64 (a1 + (t179.length : Int))), .int .i64 (wrap64 (a2 + (t179.length : Int)))] rfl mO ?_; (with_reducible refine (ih k (by omega) _ _ t182 (wrap64 (a1 + (t179.length : Int))) (wrap64 (a2 + (t179.length : Int))) t192 _ ?side1 ?side2 A19.out).mono ?_); (case side1 => exact cO (Kd.R_reads' HO184.out).2.2); (case side2 => exact (Kd.R_reads' HO184.out).2.1); rintro e w26 ⟨v193, rfl, ho0, hb⟩; refine ⟨_, rfl, ?_⟩; have n0_ := Aside0.mk (Kd.R_below (rO HO181.out) hb); have n1_ := Aside0.mk (Kd.R_below (rO HO184.out) hb); have n2_ := Aside0.mk (Kd.R_elder' (rO HO191.out) (Kd.R_base ho0) hb); have n3_ := Aside0.mk (Kd.R_lower (Kd.R_new' ho0 (Kd.R_lt (rO HO191.out))) (below_size (bO HB.out))); have n4_ := Aside0.mk (below_step (bO HB.out) hb); clear HO181; clear HO184; clear HO191; clear HB; have HO181 := n0_; have HO184 := n1_; have HO191 := n2_; have HO194 := n3_; have HB := n4_; clear n0_ n1_ n2_ n3_ n4_; (try clear hb); (try clear hb2); (try clear hk); (try clear hi); (try clear ho0); obtain ⟨Ao28, co28, eo28⟩ := Kd.R_slice HO194.out; subst eo28) | ((with_reducible refine gate_builtin (b := .append) (xs := #[.tmp 40, .tmp 48]) rfl ?_); at_builtin; refine Kd.R_append_rows k31 (w0 := w) w.heap.size rfl (.tmp 40) (.tmp 48) 24 31 (.agg #[(.int .i64 0), (.int .i64 0), (.int .i64 0)]) 24 rfl Try.underlying24 info31 rfl (by decide) (by omega) v190 t189 t192 _ _ _ (fun k_ => some k_ ≠ (.slice Ao28 t192.length co28 : Value).ownBlock) (fun _ => False) rfl rfl ?aO ?aR (fun _ _ h => h) (fun _ h => h.elim) ?aF ?aB ?aS ?aL ?_; (case aR => exact cO (Kd.R_reads' HO194.out).2.2); (case aB => exact (bO HB.out)); (case aF => exact (fun k_ hk => Kd.fresh' (Kd.R_lt (rO HO194.out)) k_ hk)); (case aO => exact (by (with_reducible repeat (first | apply Kd.R_alloc | apply Kd.R_drewN | apply Kd.R_drew)); exact Kd.R_mono HO191.out (fun _ hk => hk.2))); (case aS => exact (below_size (bO HB.out))); (case aL => have := LMc20.out; omega); intro v196 w27 ho hb hg hat; rw [← Ny195.out] at ho; have n0_ := Aside0.mk (Kd.R_over' (rO HO181.out) (Kd.R_typed (rO HO191.out)) (by decide) hg); have n1_ := Aside0.mk (Kd.R_over' (rO HO184.out) (Kd.R_typed (rO HO191.out)) (by decide) hg); have n2_ := Aside0.mk (Kd.R_after (ok := (fun _ => True)) (rO HO194.out) hg hat); have n3_ := Aside0.mk (hb); have n4_ := Aside0.mk (ho); clear HO181; clear HO184; clear HO194; clear HB; clear HO191; have HO181 := n0_; have HO184 := n1_; have HO194 := n2_; have HB := n3_; have HO197 := n4_; clear n0_ n1_ n2_ n3_ n4_; clear ho hb hg hat))
    go_ret
    exact ⟨_, by first | rfl | (simp [errW_none, errW_some] <;> rfl) | (simp [*, errW_none, errW_some] <;> rfl), by (with_reducible repeat (first | apply Kd.R_alloc | apply Kd.R_drewN | apply Kd.R_drew)); exact Kd.R_mono HO197.out (fun _ hk => trivial), bO HB.out⟩
   ·rw [if_neg c20] at H
    exact absurd H (by simp)

end Go.Proofs.Ytiakfdoaopfihaa.X
