/- What the functions of this seat compute, and that the program's calls come to just that: written by this session's own program out of the translation; no condition. -/
import Derived.Test.YthgoonohpfoagaaX0
import Derived.Test.YthgoonohpfoagaaX20
namespace Go.Proofs.Ythgoonohpfoagaa.X
open Go.RowKit Go.Proofs.YthgoonohpfoagaaW.PrintWords Go.Proofs.YthgoonohpfoagaaW.PrintLast Go.Proofs.YthgoonohpfoagaaW.PrintMore
attribute [local go_sem] max2_int min2_int max_two min_two max_three min_three max_four min_four
set_option linter.unusedVariables false
set_option linter.unusedSimpArgs false

/-! ### tabardref04_Rises: function 51 -/
def tabardref04_Rises.l0 : Nat → List ByteArray → Int → Option (Bool)
 | 0, _, _ => none
 | k + 1, x0, x3 => if x3 < (x0.length : Int) then (if 0 ≤ x3 then ((tabardref04_Name.f k (rdOf ByteArray.empty x0 x3)).bind fun t246 => (if t246 = true then (if x3 > 0 then (if 0 ≤ (wrap64 (x3 - 1)) then (if (wrap64 (x3 - 1)) < (x0.length : Int) then (if ((Op.bytesLess ((rdOf ByteArray.empty x0 (wrap64 (x3 - 1))).toList) ((rdOf ByteArray.empty x0 x3).toList)) = true) then (tabardref04_Rises.l0 k x0 (wrap64 (x3 + 1))) else (some false)) else (none)) else (none)) else (tabardref04_Rises.l0 k x0 (wrap64 (x3 + 1)))) else (some false))) else (none)) else (some true)
def tabardref04_Rises.f (k : Nat) (l0 : List ByteArray) : Option (Bool) := tabardref04_Rises.l0 k l0 0
theorem tabardref04_Rises.mono_l : ∀ k, (∀ y0 y1, LeO (tabardref04_Rises.l0 k y0 y1) (tabardref04_Rises.l0 (k + 1) y0 y1))
 | 0 => fun _ _ r h => by simp [tabardref04_Rises.l0] at h
 | k + 1 => by
  have ih0 := tabardref04_Rises.mono_l k
  ·intro y0 y1
   unfold tabardref04_Rises.l0
   repeat' first | (with_reducible first | exact ih0 _ _ | exact tabardref04_Name.mono _ _ | exact lA | apply lI | refine lB ?_ fun _ => ?_) | exact lN _ | apply lI | refine lB ?_ fun _ => ?_
theorem tabardref04_Rises.mono : ∀ a0 k, LeO (tabardref04_Rises.f k a0) (tabardref04_Rises.f (k + 1) a0) := by
 intro a0 k; have ih0 := tabardref04_Rises.mono_l k
 unfold tabardref04_Rises.f
 repeat' first | (with_reducible first | exact ih0 _ _ | exact tabardref04_Name.mono _ _ | exact lA | apply lI | refine lB ?_ fun _ => ?_) | exact lN _ | apply lI | refine lB ?_ fun _ => ?_
def tabardref04_Rises.T4 : Bool × List (List Nat × List Nat) := (true, [([], []), ([], []), ([0, 1], [0, 1]), ([2], [2]), ([3], [3]), ([4], [4]), ([5, 4], [5]), ([6], [6]), ([7, 6], [6, 7]), ([8, 6, 6], [6, 8]), ([9], [9]), ([9], [9]), ([11, 9], [9, 11]), ([10, 12, 9], [9, 10, 12]), ([13, 9], [9, 13]), ([9], [9]), ([9], [9]), ([15, 16, 9], [9, 15, 16]), ([17, 9], [9, 17]), ([14, 18, 9], [9, 14, 18]), ([9, 19, 6], [6, 9, 19]), ([6, 20], [6, 20])])
def tabardref04_Rises.B4 : List Nat := [0, 0, 3, 7, 15, 31, 63, 127, 255, 511, 1023, 1023, 3071, 8191, 16383, 1023, 1023, 99327, 230399, 524287, 1048575, 2097151]
theorem tabardref04_Rises.tab4 : rtab .any (opsOf Try.f51 4) = tabardref04_Rises.T4 := by kernel_rfl
theorem tabardref04_Rises.bits4 : waitsOk tabardref04_Rises.T4.2 tabardref04_Rises.B4 = true := by kernel_rfl
set_option maxHeartbeats 8000000 in
set_option maxRecDepth 100000 in
theorem tabardref04_Rises.calls (k : Nat) (A0 : Option Addr) (c0 : Nat) (l0 : List ByteArray) (r : Bool) (w : World) (hr0 : Kd.C Kd.string w A0 l0.length l0) (hc0 : l0.length ≤ c0) (h : tabardref04_Rises.f k l0 = some r) :
  Calls Try.prog 51 #[.slice A0 l0.length c0] w fun e w' => e = .returned (.bool r) ∧ Below w.heap.size w w' := by
 have HR0 := Aside0.mk hr0; have HC0 := Aside0.mk hc0; clear hr0 hc0; have HB := Aside0.mk (Below.refl w.heap.size w); have H : (tabardref04_Rises.l0 k l0 0) = some r := h; clear h; have H' := Aside0.mk H; clear H
 go_enter Try.func51, Try.ntmps51
 go_wp2
 go_loopg [3] k (fun kq v3 w' => ∃ (x3_1 : Int), v3 = .int .i64 x3_1 ∧ Aside0 (tabardref04_Rises.l0 kq l0 x3_1 = some r) ∧ Aside0 (kq ≤ k) ∧ Aside0 (Below w.heap.size w w'))
 case atStart => exact ⟨(0), sI, H', ⟨Nat.le_refl _⟩, ⟨bO HB.out⟩⟩
 case round =>
  clear H'; obtain ⟨x3_1, rfl, HA, HK1, HB⟩ := hrel; cases gk with
  | zero => exact absurd HA.out (by simp [tabardref04_Rises.l0])
  | succ k1 =>
   have H := HA.out; clear HA; simp only [tabardref04_Rises.l0] at H
   by_cases c2 : x3_1 < (l0.length : Int)
   ·rw [if_pos c2] at H; have c2b0 := decide_eq_true c2; clear c2
    by_cases c3 : 0 ≤ x3_1
    ·rw [if_pos c3] at H; have c3b0 := decide_eq_true c3; clear c3; replace H := Option.bind_eq_some_iff.mp H; obtain ⟨t246, A40, H⟩ := H; replace H : (if t246 = true then (if x3_1 > 0 then (if 0 ≤ (wrap64 (x3_1 - 1)) then (if (wrap64 (x3_1 - 1)) < (l0.length : Int) then (if ((Op.bytesLess ((rdOf ByteArray.empty l0 (wrap64 (x3_1 - 1))).toList) ((rdOf ByteArray.empty l0 x3_1).toList)) = true) then (tabardref04_Rises.l0 k1 l0 (wrap64 (x3_1 + 1))) else (some false)) else (none)) else (none)) else (tabardref04_Rises.l0 k1 l0 (wrap64 (x3_1 + 1)))) else (some false)) = some r := H; have A4 := Aside0.mk A40; clear A40
     by_cases c5 : t246 = true
     ·subst c5
      have H1 : (if x3_1 > 0 then (if 0 ≤ (wrap64 (x3_1 - 1)) then (if (wrap64 (x3_1 - 1)) < (l0.length : Int) then (if ((Op.bytesLess ((rdOf ByteArray.empty l0 (wrap64 (x3_1 - 1))).toList) ((rdOf ByteArray.empty l0 x3_1).toList)) = true) then (tabardref04_Rises.l0 k1 l0 (wrap64 (x3_1 + 1))) else (some false)) else (none)) else (none)) else (tabardref04_Rises.l0 k1 l0 (wrap64 (x3_1 + 1)))) = some r := by rw [if_pos rfl] at H; exact H
      clear H; have H := H1; clear H1
      by_cases c6 : x3_1 > 0
      ·rw [if_pos c6] at H; have c6b0 := decide_eq_true c6; clear c6; obtain ⟨ji7, hji7⟩ : ∃ j_ : Int, (wrap64 (x3_1 - 1)) = j_ := ⟨_, rfl⟩
       replace H : (if 0 ≤ (ji7) then (if (ji7) < (l0.length : Int) then (if ((Op.bytesLess ((rdOf ByteArray.empty l0 (ji7)).toList) ((rdOf ByteArray.empty l0 x3_1).toList)) = true) then (tabardref04_Rises.l0 k1 l0 (wrap64 (x3_1 + 1))) else (some false)) else (none)) else (none)) = some r := by first | (rw [hji7] at H; exact H) | (simp only [hji7] at H ⊢; exact H)
       (try rw [hji7] at A4)
       have hji7w : (IntKind.i64.wrap (x3_1 - 1)) = ji7 := (i64_w _).trans hji7
       by_cases c8 : 0 ≤ (ji7)
       ·rw [if_pos c8] at H; have c8b0 := decide_eq_true c8; clear c8
        by_cases c9 : (ji7) < (l0.length : Int)
        ·rw [if_pos c9] at H; have c9b0 := decide_eq_true c9; clear c9
         by_cases c10 : ((Op.bytesLess ((rdOf ByteArray.empty l0 (ji7)).toList) ((rdOf ByteArray.empty l0 x3_1).toList)) = true)
         ·rw [if_pos c10] at H; have c10b0 : (Op.bytesLess ((rdOf ByteArray.empty l0 (ji7)).toList) ((rdOf ByteArray.empty l0 x3_1).toList)) = true := c10; clear c10; have H' := Aside0.mk H; clear H
          try go_wp2
          replace HB := Aside0.mk (below_drew1 HB.out); have p245 : 0 ≤ (x3_1 : Int) := of_decide_eq_true aO; have q245 : x3_1 < (l0.length : Int) := of_decide_eq_true aO; obtain ⟨ad245, e245, hx245_0⟩ := Kd.at_string HR0.out x3_1 p245 q245; have hw245_0 := hx245_0; cases e245; replace hx245_0 := cX HB hx245_0; replace p245 := eq_true p245; replace q245 := eq_true q245; have p247 : 0 ≤ ((ji7) : Int) := of_decide_eq_true aO; have q247 : (ji7) < (l0.length : Int) := of_decide_eq_true aO; obtain ⟨ad247, e247, hx247_0⟩ := Kd.at_string HR0.out (ji7) p247 q247; have hw247_0 := hx247_0; have he_ : ad245 = ad247 := (by injection e247); subst he_; replace hx247_0 := cX HB hx247_0; replace p247 := eq_true p247; replace q247 := eq_true q247; have p248 : 0 ≤ (x3_1 : Int) := of_decide_eq_true aO; have q248 : x3_1 < (l0.length : Int) := of_decide_eq_true aO; obtain ⟨ad248, e248, hx248_0⟩ := Kd.at_string HR0.out x3_1 p248 q248; have hw248_0 := hx248_0; have he_ : ad245 = ad248 := (by injection e248); subst he_; replace hx248_0 := cX HB hx248_0; replace p248 := eq_true p248; replace q248 := eq_true q248; refine start_ (n := 22) (S := fun w' => w'.cell? (ad245.add (x3_1).toNat) = some (.string (rdOf ByteArray.empty l0 x3_1)) ∧ w'.cell? (ad245.add ((ji7)).toNat) = some (.string (rdOf ByteArray.empty l0 (ji7))) ∧ w'.cell? (ad245.add (x3_1).toNat) = some (.string (rdOf ByteArray.empty l0 x3_1))) (ds := []) (bl 22 0) (by kernel_rfl) rfl rfl ⟨((HB.out.cell (World.block_lt_of_cell? w _ hw245_0)).trans hw245_0), ((HB.out.cell (World.block_lt_of_cell? w _ hw247_0)).trans hw247_0), ((HB.out.cell (World.block_lt_of_cell? w _ hw248_0)).trans hw248_0)⟩ (fun hHeld => ?_); refine with_tabW tabardref04_Rises.tab4 tabardref04_Rises.bits4 (fun HT_ HW_ => ?_); generalize wr.drew = w11 at HB hx245_0 hx247_0 hx248_0 hHeld ⊢; refine pu_ 0 10 (bl 22 1) HT_ ?_; refine pu_ 1 11 (bl 22 3) HT_ ?_; refine pu_ 2 12 (bl 22 7) HT_ ?_; refine tk3_ 3 13 (bl 22 15) HT_ HW_ hHeld ?_; refine one_ (i := 4) (N := some 14) (bl 22 31) rfl rfl (one_of HT_.out (by kernel_rfl)) (by decide) (fun K hK => ?_); refine gS_ Try.func75 #[.string (rdOf ByteArray.empty l0 x3_1)] ?_
          with_reducible refine (tabardref04_Name.calls k1 (rdOf ByteArray.empty l0 x3_1) true _ A4.out).mono ?_
          rintro e w12 ⟨rfl, hb⟩; refine ⟨_, rfl, ?_⟩; replace HB := hS0 HB hb
          (try clear hb)
          (try clear hb2)
          (try clear hk)
          (try clear hi)
          refine hK.out _ _ ⟨((HB.out.cell (World.block_lt_of_cell? w _ hw245_0)).trans hw245_0), ((HB.out.cell (World.block_lt_of_cell? w _ hw247_0)).trans hw247_0), ((HB.out.cell (World.block_lt_of_cell? w _ hw248_0)).trans hw248_0)⟩ (fun hHeld => ?_); clear hK K; refine nm_ 14 ?_; refine pu_ 5 15 (bl 22 63) HT_ ?_; refine pu_ 6 16 (bl 22 127) HT_ ?_; refine pu_ 7 17 (bl 22 255) HT_ ?_; refine pu_ 8 18 (bl 22 511) HT_ ?_; refine pu_ 9 19 (bl 22 1023) HT_ ?_; refine pu_ 10 20 (bl 22 2047) HT_ ?_; refine pu_ 11 21 (bl 22 4095) HT_ ?_; refine pu_ 12 22 (bl 22 8191) HT_ ?_; refine pu_ 13 23 (bl 22 16383) HT_ ?_; refine pu_ 15 25 (bl 22 49151) HT_ ?_; refine pu_ 16 26 (bl 22 114687) HT_ ?_; refine pu_ 17 27 (bl 22 245759) HT_ ?_; refine tk3_ 14 24 (bl 22 262143) HT_ HW_ hHeld ?_; refine tk3_ 18 28 (bl 22 524287) HT_ HW_ hHeld ?_; refine pu_ 19 29 (bl 22 1048575) HT_ ?_; refine pu_ 20 30 (bl 22 2097151) HT_ ?_; refine pu_ 21 31 (bl 22 4194303) HT_ ?_; refine done_ (done_of HT_.out (by kernel_rfl)) ?_
          try go_wp2
          go_roundg k1
          case measure => have := HK1.out; omega
          case rel => exact ⟨(wrap64 (x3_1 + 1)), sI, H', ⟨by have := HK1.out; omega⟩, ⟨bO HB.out⟩⟩
         ·rw [if_neg c10] at H
          have c10b0 : (Op.bytesLess ((rdOf ByteArray.empty l0 (ji7)).toList) ((rdOf ByteArray.empty l0 x3_1).toList)) = false := by simpa using c10
          clear c10; obtain rfl := Option.some.inj H
          try go_wp2
          replace HB := Aside0.mk (below_drew1 HB.out); have p245 : 0 ≤ (x3_1 : Int) := of_decide_eq_true aO; have q245 : x3_1 < (l0.length : Int) := of_decide_eq_true aO; obtain ⟨ad245, e245, hx245_0⟩ := Kd.at_string HR0.out x3_1 p245 q245; have hw245_0 := hx245_0; cases e245; replace hx245_0 := cX HB hx245_0; replace p245 := eq_true p245; replace q245 := eq_true q245; have p247 : 0 ≤ ((ji7) : Int) := of_decide_eq_true aO; have q247 : (ji7) < (l0.length : Int) := of_decide_eq_true aO; obtain ⟨ad247, e247, hx247_0⟩ := Kd.at_string HR0.out (ji7) p247 q247; have hw247_0 := hx247_0; have he_ : ad245 = ad247 := (by injection e247); subst he_; replace hx247_0 := cX HB hx247_0; replace p247 := eq_true p247; replace q247 := eq_true q247; have p248 : 0 ≤ (x3_1 : Int) := of_decide_eq_true aO; have q248 : x3_1 < (l0.length : Int) := of_decide_eq_true aO; obtain ⟨ad248, e248, hx248_0⟩ := Kd.at_string HR0.out x3_1 p248 q248; have hw248_0 := hx248_0; have he_ : ad245 = ad248 := (by injection e248); subst he_; replace hx248_0 := cX HB hx248_0; replace p248 := eq_true p248; replace q248 := eq_true q248; refine start_ (n := 22) (S := fun w' => w'.cell? (ad245.add (x3_1).toNat) = some (.string (rdOf ByteArray.empty l0 x3_1)) ∧ w'.cell? (ad245.add ((ji7)).toNat) = some (.string (rdOf ByteArray.empty l0 (ji7))) ∧ w'.cell? (ad245.add (x3_1).toNat) = some (.string (rdOf ByteArray.empty l0 x3_1))) (ds := []) (bl 22 0) (by kernel_rfl) rfl rfl ⟨((HB.out.cell (World.block_lt_of_cell? w _ hw245_0)).trans hw245_0), ((HB.out.cell (World.block_lt_of_cell? w _ hw247_0)).trans hw247_0), ((HB.out.cell (World.block_lt_of_cell? w _ hw248_0)).trans hw248_0)⟩ (fun hHeld => ?_); refine with_tabW tabardref04_Rises.tab4 tabardref04_Rises.bits4 (fun HT_ HW_ => ?_); generalize wr.drew = w13 at HB hx245_0 hx247_0 hx248_0 hHeld ⊢; refine pu_ 0 10 (bl 22 1) HT_ ?_; refine pu_ 1 11 (bl 22 3) HT_ ?_; refine pu_ 2 12 (bl 22 7) HT_ ?_; refine tk3_ 3 13 (bl 22 15) HT_ HW_ hHeld ?_; refine one_ (i := 4) (N := some 14) (bl 22 31) rfl rfl (one_of HT_.out (by kernel_rfl)) (by decide) (fun K hK => ?_); refine gS_ Try.func75 #[.string (rdOf ByteArray.empty l0 x3_1)] ?_
          with_reducible refine (tabardref04_Name.calls k1 (rdOf ByteArray.empty l0 x3_1) true _ A4.out).mono ?_
          rintro e w14 ⟨rfl, hb⟩; refine ⟨_, rfl, ?_⟩; replace HB := hS0 HB hb
          (try clear hb)
          (try clear hb2)
          (try clear hk)
          (try clear hi)
          refine hK.out _ _ ⟨((HB.out.cell (World.block_lt_of_cell? w _ hw245_0)).trans hw245_0), ((HB.out.cell (World.block_lt_of_cell? w _ hw247_0)).trans hw247_0), ((HB.out.cell (World.block_lt_of_cell? w _ hw248_0)).trans hw248_0)⟩ (fun hHeld => ?_); clear hK K; refine nm_ 14 ?_; refine pu_ 5 15 (bl 22 63) HT_ ?_; refine pu_ 6 16 (bl 22 127) HT_ ?_; refine pu_ 7 17 (bl 22 255) HT_ ?_; refine pu_ 8 18 (bl 22 511) HT_ ?_; refine pu_ 9 19 (bl 22 1023) HT_ ?_; refine pu_ 10 20 (bl 22 2047) HT_ ?_; refine pu_ 11 21 (bl 22 4095) HT_ ?_; refine pu_ 12 22 (bl 22 8191) HT_ ?_; refine pu_ 13 23 (bl 22 16383) HT_ ?_; refine pu_ 15 25 (bl 22 49151) HT_ ?_; refine pu_ 16 26 (bl 22 114687) HT_ ?_; refine pu_ 17 27 (bl 22 245759) HT_ ?_; refine tk3_ 14 24 (bl 22 262143) HT_ HW_ hHeld ?_; refine tk3_ 18 28 (bl 22 524287) HT_ HW_ hHeld ?_; refine pu_ 19 29 (bl 22 1048575) HT_ ?_; refine pu_ 20 30 (bl 22 2097151) HT_ ?_; refine pu_ 21 31 (bl 22 4194303) HT_ ?_; refine done_ (done_of HT_.out (by kernel_rfl)) ?_
          try go_wp2
          go_ret
          exact ⟨by first | rfl | (simp [errW_none, errW_some] <;> rfl) | (simp only [← hji7]; first | rfl | (simp [errW_none, errW_some] <;> rfl)) | (simp [*, errW_none, errW_some] <;> rfl), bO HB.out⟩
        ·rw [if_neg c9] at H; exact absurd H (by simp)
       ·rw [if_neg c8] at H; exact absurd H (by simp)
      ·rw [if_neg c6] at H; have c6b0 := decide_eq_false c6; clear c6; have H' := Aside0.mk H; clear H
       try go_wp2
       replace HB := Aside0.mk (below_drew1 HB.out); have p245 : 0 ≤ (x3_1 : Int) := of_decide_eq_true aO; have q245 : x3_1 < (l0.length : Int) := of_decide_eq_true aO; obtain ⟨ad245, e245, hx245_0⟩ := Kd.at_string HR0.out x3_1 p245 q245; have hw245_0 := hx245_0; cases e245; replace hx245_0 := cX HB hx245_0; replace p245 := eq_true p245; replace q245 := eq_true q245; refine start_ (n := 22) (S := fun w' => w'.cell? (ad245.add (x3_1).toNat) = some (.string (rdOf ByteArray.empty l0 x3_1))) (ds := []) (bl 22 0) (by kernel_rfl) rfl rfl (((HB.out.cell (World.block_lt_of_cell? w _ hw245_0)).trans hw245_0)) (fun hHeld => ?_); refine with_tabW tabardref04_Rises.tab4 tabardref04_Rises.bits4 (fun HT_ HW_ => ?_); generalize wr.drew = w15 at HB hx245_0 hHeld ⊢; refine pu_ 0 10 (bl 22 1) HT_ ?_; refine pu_ 1 11 (bl 22 3) HT_ ?_; refine pu_ 2 12 (bl 22 7) HT_ ?_; refine take_ (i := 3) (N := some 13) (v := ?_) (a' := ?_) (bl 22 15) rfl rfl (take_ofW HT_.out HW_.out (by kernel_rfl)) (fun _ _ _ h => h) (Or.inl ⟨by rfl, ?_⟩) hHeld ?_ ?_; rotate_left
       ·intro w' s0
        go_simp
        with_reducible rfl
       rotate_left
       ·simp only [Act.put, sA, sB, sC, i64_w, i32_w]
        rfl
       refine one_ (i := 4) (N := some 14) (bl 22 31) rfl rfl (one_of HT_.out (by kernel_rfl)) (by decide) (fun K hK => ?_); refine gS_ Try.func75 #[.string (rdOf ByteArray.empty l0 x3_1)] ?_
       with_reducible refine (tabardref04_Name.calls k1 (rdOf ByteArray.empty l0 x3_1) true _ A4.out).mono ?_
       rintro e w16 ⟨rfl, hb⟩; refine ⟨_, rfl, ?_⟩; replace HB := hS0 HB hb
       (try clear hb)
       (try clear hb2)
       (try clear hk)
       (try clear hi)
       refine hK.out _ _ (((HB.out.cell (World.block_lt_of_cell? w _ hw245_0)).trans hw245_0)) (fun hHeld => ?_); clear hK K; refine nm_ 14 ?_; refine pu_ 5 15 (bl 22 63) HT_ ?_; refine pu_ 6 16 (bl 22 127) HT_ ?_; refine pu_ 7 17 (bl 22 255) HT_ ?_; refine pu_ 8 18 (bl 22 511) HT_ ?_; refine pu_ 9 19 (bl 22 1023) HT_ ?_; refine pn_ 10 20 (bl 22 2047) HT_ ?_; refine pn_ 11 21 (bl 22 4095) HT_ ?_; refine pn_ 12 22 (bl 22 8191) HT_ ?_; refine pn_ 13 23 (bl 22 16383) HT_ ?_; refine pn_ 14 24 (bl 22 32767) HT_ ?_; refine pn_ 15 25 (bl 22 65535) HT_ ?_; refine pn_ 16 26 (bl 22 131071) HT_ ?_; refine pn_ 17 27 (bl 22 262143) HT_ ?_; refine pn_ 18 28 (bl 22 524287) HT_ ?_; refine pn_ 19 29 (bl 22 1048575) HT_ ?_; refine pu_ 20 30 (bl 22 2097151) HT_ ?_; refine pu_ 21 31 (bl 22 4194303) HT_ ?_; refine done_ (done_of HT_.out (by kernel_rfl)) ?_
       try go_wp2
       go_roundg k1
       case measure => have := HK1.out; omega
       case rel => exact ⟨(wrap64 (x3_1 + 1)), sI, H', ⟨by have := HK1.out; omega⟩, ⟨bO HB.out⟩⟩
     ·replace c5 := Bool.eq_false_iff.mpr c5; subst c5
      have H1 : (some false) = some r := by rw [if_neg (show ¬ (false = true) by decide)] at H; exact H
      clear H; have H := H1; clear H1; obtain rfl := Option.some.inj H
      try go_wp2
      replace HB := Aside0.mk (below_drew1 HB.out); have p245 : 0 ≤ (x3_1 : Int) := of_decide_eq_true aO; have q245 : x3_1 < (l0.length : Int) := of_decide_eq_true aO; obtain ⟨ad245, e245, hx245_0⟩ := Kd.at_string HR0.out x3_1 p245 q245; have hw245_0 := hx245_0; cases e245; replace hx245_0 := cX HB hx245_0; replace p245 := eq_true p245; replace q245 := eq_true q245; refine start_ (n := 22) (S := fun w' => w'.cell? (ad245.add (x3_1).toNat) = some (.string (rdOf ByteArray.empty l0 x3_1))) (ds := []) (bl 22 0) (by kernel_rfl) rfl rfl (((HB.out.cell (World.block_lt_of_cell? w _ hw245_0)).trans hw245_0)) (fun hHeld => ?_); refine with_tabW tabardref04_Rises.tab4 tabardref04_Rises.bits4 (fun HT_ HW_ => ?_); generalize wr.drew = w17 at HB hx245_0 hHeld ⊢; refine pu_ 0 10 (bl 22 1) HT_ ?_; refine pu_ 1 11 (bl 22 3) HT_ ?_; refine pu_ 2 12 (bl 22 7) HT_ ?_; refine take_ (i := 3) (N := some 13) (v := ?_) (a' := ?_) (bl 22 15) rfl rfl (take_ofW HT_.out HW_.out (by kernel_rfl)) (fun _ _ _ h => h) (Or.inl ⟨by rfl, ?_⟩) hHeld ?_ ?_; rotate_left
      ·intro w' s0
       go_simp
       with_reducible rfl
      rotate_left
      ·simp only [Act.put, sA, sB, sC, i64_w, i32_w]
       rfl
      refine one_ (i := 4) (N := some 14) (bl 22 31) rfl rfl (one_of HT_.out (by kernel_rfl)) (by decide) (fun K hK => ?_); refine gS_ Try.func75 #[.string (rdOf ByteArray.empty l0 x3_1)] ?_
      with_reducible refine (tabardref04_Name.calls k1 (rdOf ByteArray.empty l0 x3_1) false _ A4.out).mono ?_
      rintro e w18 ⟨rfl, hb⟩; refine ⟨_, rfl, ?_⟩; replace HB := hS0 HB hb
      (try clear hb)
      (try clear hb2)
      (try clear hk)
      (try clear hi)
      refine hK.out _ _ (((HB.out.cell (World.block_lt_of_cell? w _ hw245_0)).trans hw245_0)) (fun hHeld => ?_); clear hK K; refine nm_ 14 ?_; refine pu_ 5 15 (bl 22 63) HT_ ?_; refine pu_ 6 16 (bl 22 127) HT_ ?_; refine pn_ 7 17 (bl 22 255) HT_ ?_; refine pn_ 8 18 (bl 22 511) HT_ ?_; refine pn_ 9 19 (bl 22 1023) HT_ ?_; refine pn_ 10 20 (bl 22 2047) HT_ ?_; refine pn_ 11 21 (bl 22 4095) HT_ ?_; refine pn_ 12 22 (bl 22 8191) HT_ ?_; refine pn_ 13 23 (bl 22 16383) HT_ ?_; refine pn_ 14 24 (bl 22 32767) HT_ ?_; refine pn_ 15 25 (bl 22 65535) HT_ ?_; refine pn_ 16 26 (bl 22 131071) HT_ ?_; refine pn_ 17 27 (bl 22 262143) HT_ ?_; refine pn_ 18 28 (bl 22 524287) HT_ ?_; refine pn_ 19 29 (bl 22 1048575) HT_ ?_; refine pn_ 20 30 (bl 22 2097151) HT_ ?_; refine pu_ 21 31 (bl 22 4194303) HT_ ?_; refine done_ (done_of HT_.out (by kernel_rfl)) ?_
      try go_wp2
      go_ret
      exact ⟨eW, bO HB.out⟩
    ·rw [if_neg c3] at H; exact absurd H (by simp)
   ·rw [if_neg c2] at H; have c2b0 := decide_eq_false c2; clear c2; obtain rfl := Option.some.inj H
    go_wp2
    go_ret
    exact ⟨eW, bO HB.out⟩

end Go.Proofs.Ythgoonohpfoagaa.X
