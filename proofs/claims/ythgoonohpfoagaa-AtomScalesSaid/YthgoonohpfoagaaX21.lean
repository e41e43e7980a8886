/- What the functions of this seat compute, and that the program's calls come to just that: written by this session's own program out of the translation; no condition. -/
import Derived.Test.YthgoonohpfoagaaX0
import Derived.Test.YthgoonohpfoagaaX20
namespace Go.Proofs.Ythgoonohpfoagaa.X
open Go.RowKit Go.Proofs.YthgoonohpfoagaaW.PrintWords Go.Proofs.YthgoonohpfoagaaW.PrintLast Go.Proofs.YthgoonohpfoagaaW.PrintMore
attribute [local go_sem] max2_int min2_int max_two min_two max_three min_three max_four min_four
set_option linter.unusedVariables false
set_option linter.unusedSimpArgs false
set_option maxHeartbeats 8000000
set_option maxRecDepth 100000

/-! ### tabardref04_Rises: function 51 -/
def tabardref04_Rises.l0 : Nat → List ByteArray → Int → Option (Bool)
 | 0, _, _ => none
 | k + 1, x0, x3 => if x3 < (x0.length : Int) then (if 0 ≤ x3 then ((tabardref04_Name.f k (rdOf ByteArray.empty x0 x3)).bind fun t246 => (if t246 = true then (if x3 > 0 then (if 0 ≤ (wrap64 (x3 - 1)) then (if (wrap64 (x3 - 1)) < (x0.length : Int) then (if ((Op.bytesLess ((rdOf ByteArray.empty x0 (wrap64 (x3 - 1))).toList) ((rdOf ByteArray.empty x0 x3).toList)) = true) then (tabardref04_Rises.l0 k x0 (wrap64 (x3 + 1))) else (some false)) else (none)) else (none)) else (tabardref04_Rises.l0 k x0 (wrap64 (x3 + 1)))) else (some false))) else (none)) else (some true)
def tabardref04_Rises.f (k : Nat) (l0 : List ByteArray) : Option (Bool) := tabardref04_Rises.l0 k l0 0
theorem tabardref04_Rises.mono_l : ∀ k, (∀ y0 y1, LeO (tabardref04_Rises.l0 k y0 y1) (tabardref04_Rises.l0 (k + 1) y0 y1))
 | 0 => fun _ _ r h => by simp [tabardref04_Rises.l0] at h
 | k + 1 => by
  have ih0 := tabardref04_Rises.mono_l k
  ·intro y0 y1
   unfold tabardref04_Rises.l0
   repeat' first | (with_reducible first | exact ih0 _ _ | exact tabardref04_Name.mono _ _ | exact lA | apply lI | refine lB ?_ fun _ => ?_) | exact lN _ | apply lI | refine lB ?_ fun _ => ?_
theorem tabardref04_Rises.mono : ∀ a0 k, LeO (tabardref04_Rises.f k a0) (tabardref04_Rises.f (k + 1) a0) := by
 intro a0 k; have ih0 := tabardref04_Rises.mono_l k
 unfold tabardref04_Rises.f
 repeat' first | (with_reducible first | exact ih0 _ _ | exact tabardref04_Name.mono _ _ | exact lA | apply lI | refine lB ?_ fun _ => ?_) | exact lN _ | apply lI | refine lB ?_ fun _ => ?_
def tabardref04_Rises.T4 : Bool × List (List Nat × List Nat) := (true, [([], []), ([], []), ([0, 1], [0, 1]), ([2], [2]), ([3], [3]), ([4], [4]), ([5, 4], [5]), ([6], [6]), ([7, 6], [6, 7]), ([8, 6, 6], [6, 8]), ([9], [9]), ([9], [9]), ([11, 9], [9, 11]), ([10, 12, 9], [9, 10, 12]), ([13, 9], [9, 13]), ([9], [9]), ([9], [9]), ([15, 16, 9], [9, 15, 16]), ([17, 9], [9, 17]), ([14, 18, 9], [9, 14, 18]), ([9, 19, 6], [6, 9, 19]), ([6, 20], [6, 20])])
def tabardref04_Rises.B4 : List Nat := [0, 0, 3, 7, 15, 31, 63, 127, 255, 511, 1023, 1023, 3071, 8191, 16383, 1023, 1023, 99327, 230399, 524287, 1048575, 2097151]
theorem tabardref04_Rises.tab4 : rtab .any (opsOf Try.f51 4) = tabardref04_Rises.T4 := by kernel_rfl
theorem tabardref04_Rises.bits4 : waitsOk tabardref04_Rises.T4.2 tabardref04_Rises.B4 = true := by kernel_rfl
theorem tabardref04_Rises.calls (k : Nat) (A0 : Option Addr) (c0 : Nat) (E : List ByteArray) (r : Bool) (w : World) (an : Kd.C Kd.string w A0 E.length E) (ao : E.length ≤ c0) (h : tabardref04_Rises.f k E = some r) :
  Calls Try.prog 51 #[.slice A0 E.length c0] w fun e w' => e = .returned (.bool r) ∧ Below w.heap.size w w' := by
 have W := aM an; have aB := aM ao; clear an ao; have HB := aM (Below.refl w.heap.size w); rw [tabardref04_Rises.f] at h; have H := h; clear h; have H' := aM H; clear H
 go_enter Try.func51, Try.ntmps51
 go_wp2
 go_loopg [3] k (fun kq v3 w' => ∃ (z : Int), v3 = .int .i64 z ∧ Aside0 (tabardref04_Rises.l0 kq E z = some r) ∧ Aside0 (kq ≤ k) ∧ BA w w')
 case atStart => exact ⟨(0), sI, H', ⟨Nat.le_refl _⟩, bT0 HB⟩
 case round =>
  clear H'; obtain ⟨z, rfl, HA, HK1, HB⟩ := hrel; cases gk with
  | zero => exact absurd HA.out (by simp [tabardref04_Rises.l0])
  | succ k1 =>
   have H := HA.out; clear HA; simp only [tabardref04_Rises.l0] at H
   by_cases c2 : z < (E.length : Int)
   ·rw [if_pos c2] at H; have aq := dT c2; clear c2
    by_cases c3 : 0 ≤ z
    ·rw [if_pos c3] at H; have ay := dT c3; clear c3; replace H := Option.bind_eq_some_iff.mp H; obtain ⟨ar, ap, H⟩ := H; have A4 := aM ap; clear ap
     by_cases c5 : ar = true
     ·subst c5
      rw [if_pos rfl] at H
      by_cases c6 : z > 0
      ·rw [if_pos c6] at H; have au := dT c6; clear c6; obtain ⟨O, Y⟩ : ∃ j_ : Int, (wrap64 (z - 1)) = j_ := ⟨_, rfl⟩
       first | rw [Y] at H | simp only [Y] at H
       (try rw [Y] at A4)
       have hji7w : (IntKind.i64.wrap (z - 1)) = O := (i64_w _).trans Y
       by_cases c8 : 0 ≤ (O)
       ·rw [if_pos c8] at H; have az := dT c8; clear c8
        by_cases c9 : (O) < (E.length : Int)
        ·rw [if_pos c9] at H; have aA := dT c9; clear c9
         by_cases Z : ((Op.bytesLess ((rdOf ByteArray.empty E (O)).toList) ((rdOf ByteArray.empty E z).toList)) = true)
         ·rw [if_pos Z] at H; have am : (Op.bytesLess ((rdOf ByteArray.empty E (O)).toList) ((rdOf ByteArray.empty E z).toList)) = true := Z; clear Z; have H' := aM H; clear H
          try go_wp2
          replace HB := aM (below_drew1 HB.out); have L : 0 ≤ (z : Int) := oT aO; have M : z < (E.length : Int) := oT aO; obtain ⟨D, P, A⟩ := Kd.at_string W.out z L M; have B := A; cases P; replace A := cX HB A; replace L := eq_true L; replace M := eq_true M; have Q : 0 ≤ ((O) : Int) := oT aO; have R : (O) < (E.length : Int) := oT aO; obtain ⟨aa, ac, F⟩ := Kd.at_string W.out (O) Q R; have G := F; have he_ : D = aa := (by injection ac); subst he_; replace F := cX HB F; replace Q := eq_true Q; replace R := eq_true R; have U : 0 ≤ (z : Int) := oT aO; have V : z < (E.length : Int) := oT aO; obtain ⟨ab, ad, I⟩ := Kd.at_string W.out z U V; have J := I; have he_ : D = ab := (by injection ad); subst he_; replace I := cX HB I; replace U := eq_true U; replace V := eq_true V; refine start_ (n := 22) (S := fun w' => w'.cell? (D.add (z).toNat) = some (.string (rdOf ByteArray.empty E z)) ∧ w'.cell? (D.add ((O)).toNat) = some (.string (rdOf ByteArray.empty E (O))) ∧ w'.cell? (D.add (z).toNat) = some (.string (rdOf ByteArray.empty E z))) (ds := []) (bl 22 0) (by kernel_rfl) rfl rfl ⟨((HB.out.cell (World.block_lt_of_cell? w _ B)).trans B), ((HB.out.cell (World.block_lt_of_cell? w _ G)).trans G), ((HB.out.cell (World.block_lt_of_cell? w _ J)).trans J)⟩ (fun hHeld => ?_); refine with_tabW tabardref04_Rises.tab4 tabardref04_Rises.bits4 (fun HT_ HW_ => ?_); generalize wr.drew = aC at HB A F I hHeld ⊢; refine pu_ 0 10 (bl 22 1) HT_ ?_; refine pu_ 1 11 (bl 22 3) HT_ ?_; refine pu_ 2 12 (bl 22 7) HT_ ?_; refine tk3_ 3 13 (bl 22 15) HT_ HW_ hHeld ?_; refine one_ (i := 4) (N := some 14) (bl 22 31) rfl rfl (one_of HT_.out (by kernel_rfl)) (by decide) (fun K hK => ?_); refine gS_ Try.func75 #[.string (rdOf ByteArray.empty E z)] ?_
          with_reducible refine (tabardref04_Name.calls k1 (rdOf ByteArray.empty E z) true _ A4.out).mono ?_
          rintro e aD ⟨rfl, hb⟩; refine ⟨_, rfl, ?_⟩; replace HB := hS0 HB hb
          (try clear hb)
          (try clear ah)
          (try clear hk)
          (try clear hi)
          refine hK.out _ _ ⟨((HB.out.cell (World.block_lt_of_cell? w _ B)).trans B), ((HB.out.cell (World.block_lt_of_cell? w _ G)).trans G), ((HB.out.cell (World.block_lt_of_cell? w _ J)).trans J)⟩ (fun hHeld => ?_); clear hK K; refine nm_ 14 ?_; refine pu_ 5 15 (bl 22 63) HT_ ?_; refine pu_ 6 16 (bl 22 127) HT_ ?_; refine pu_ 7 17 (bl 22 255) HT_ ?_; refine pu_ 8 18 (bl 22 511) HT_ ?_; refine pu_ 9 19 (bl 22 1023) HT_ ?_; refine pu_ 10 20 (bl 22 2047) HT_ ?_; refine pu_ 11 21 (bl 22 4095) HT_ ?_; refine pu_ 12 22 (bl 22 8191) HT_ ?_; refine pu_ 13 23 (bl 22 16383) HT_ ?_; refine pu_ 15 25 (bl 22 49151) HT_ ?_; refine pu_ 16 26 (bl 22 114687) HT_ ?_; refine pu_ 17 27 (bl 22 245759) HT_ ?_; refine tk3_ 14 24 (bl 22 262143) HT_ HW_ hHeld ?_; refine tk3_ 18 28 (bl 22 524287) HT_ HW_ hHeld ?_; refine pu_ 19 29 (bl 22 1048575) HT_ ?_; refine pu_ 20 30 (bl 22 2097151) HT_ ?_; refine pu_ 21 31 (bl 22 4194303) HT_ ?_; refine done_ (done_of HT_.out (by kernel_rfl)) ?_
          try go_wp2
          go_roundg k1
          case measure => have := HK1.out; omega
          case rel => exact ⟨(wrap64 (z + 1)), sI, H', ⟨by have := HK1.out; omega⟩, bT0 HB⟩
         ·rw [if_neg Z] at H
          have am : (Op.bytesLess ((rdOf ByteArray.empty E (O)).toList) ((rdOf ByteArray.empty E z).toList)) = false := by simpa using Z
          clear Z; obtain rfl := Option.some.inj H
          try go_wp2
          replace HB := aM (below_drew1 HB.out); have L : 0 ≤ (z : Int) := oT aO; have M : z < (E.length : Int) := oT aO; obtain ⟨D, P, A⟩ := Kd.at_string W.out z L M; have B := A; cases P; replace A := cX HB A; replace L := eq_true L; replace M := eq_true M; have Q : 0 ≤ ((O) : Int) := oT aO; have R : (O) < (E.length : Int) := oT aO; obtain ⟨aa, ac, F⟩ := Kd.at_string W.out (O) Q R; have G := F; have he_ : D = aa := (by injection ac); subst he_; replace F := cX HB F; replace Q := eq_true Q; replace R := eq_true R; have U : 0 ≤ (z : Int) := oT aO; have V : z < (E.length : Int) := oT aO; obtain ⟨ab, ad, I⟩ := Kd.at_string W.out z U V; have J := I; have he_ : D = ab := (by injection ad); subst he_; replace I := cX HB I; replace U := eq_true U; replace V := eq_true V; refine start_ (n := 22) (S := fun w' => w'.cell? (D.add (z).toNat) = some (.string (rdOf ByteArray.empty E z)) ∧ w'.cell? (D.add ((O)).toNat) = some (.string (rdOf ByteArray.empty E (O))) ∧ w'.cell? (D.add (z).toNat) = some (.string (rdOf ByteArray.empty E z))) (ds := []) (bl 22 0) (by kernel_rfl) rfl rfl ⟨((HB.out.cell (World.block_lt_of_cell? w _ B)).trans B), ((HB.out.cell (World.block_lt_of_cell? w _ G)).trans G), ((HB.out.cell (World.block_lt_of_cell? w _ J)).trans J)⟩ (fun hHeld => ?_); refine with_tabW tabardref04_Rises.tab4 tabardref04_Rises.bits4 (fun HT_ HW_ => ?_); generalize wr.drew = aE at HB A F I hHeld ⊢; refine pu_ 0 10 (bl 22 1) HT_ ?_; refine pu_ 1 11 (bl 22 3) HT_ ?_; refine pu_ 2 12 (bl 22 7) HT_ ?_; refine tk3_ 3 13 (bl 22 15) HT_ HW_ hHeld ?_; refine one_ (i := 4) (N := some 14) (bl 22 31) rfl rfl (one_of HT_.out (by kernel_rfl)) (by decide) (fun K hK => ?_); refine gS_ Try.func75 #[.string (rdOf ByteArray.empty E z)] ?_
          with_reducible refine (tabardref04_Name.calls k1 (rdOf ByteArray.empty E z) true _ A4.out).mono ?_
          rintro e aF ⟨rfl, hb⟩; refine ⟨_, rfl, ?_⟩; replace HB := hS0 HB hb
          (try clear hb)
          (try clear ah)
          (try clear hk)
          (try clear hi)
          refine hK.out _ _ ⟨((HB.out.cell (World.block_lt_of_cell? w _ B)).trans B), ((HB.out.cell (World.block_lt_of_cell? w _ G)).trans G), ((HB.out.cell (World.block_lt_of_cell? w _ J)).trans J)⟩ (fun hHeld => ?_); clear hK K; refine nm_ 14 ?_; refine pu_ 5 15 (bl 22 63) HT_ ?_; refine pu_ 6 16 (bl 22 127) HT_ ?_; refine pu_ 7 17 (bl 22 255) HT_ ?_; refine pu_ 8 18 (bl 22 511) HT_ ?_; refine pu_ 9 19 (bl 22 1023) HT_ ?_; refine pu_ 10 20 (bl 22 2047) HT_ ?_; refine pu_ 11 21 (bl 22 4095) HT_ ?_; refine pu_ 12 22 (bl 22 8191) HT_ ?_; refine pu_ 13 23 (bl 22 16383) HT_ ?_; refine pu_ 15 25 (bl 22 49151) HT_ ?_; refine pu_ 16 26 (bl 22 114687) HT_ ?_; refine pu_ 17 27 (bl 22 245759) HT_ ?_; refine tk3_ 14 24 (bl 22 262143) HT_ HW_ hHeld ?_; refine tk3_ 18 28 (bl 22 524287) HT_ HW_ hHeld ?_; refine pu_ 19 29 (bl 22 1048575) HT_ ?_; refine pu_ 20 30 (bl 22 2097151) HT_ ?_; refine pu_ 21 31 (bl 22 4194303) HT_ ?_; refine done_ (done_of HT_.out (by kernel_rfl)) ?_
          try go_wp2
          go_ret
          exact ⟨by first | rfl | (simp [errW_none, errW_some] <;> rfl) | (simp only [← Y]; first | rfl | (simp [errW_none, errW_some] <;> rfl)) | (simp [*, errW_none, errW_some] <;> rfl), bO HB.out⟩
        ·exact nX c9 H
       ·exact nX c8 H
      ·rw [if_neg c6] at H; have au := decide_eq_false c6; clear c6; have H' := aM H; clear H
       try go_wp2
       replace HB := aM (below_drew1 HB.out); have L : 0 ≤ (z : Int) := oT aO; have M : z < (E.length : Int) := oT aO; obtain ⟨D, P, A⟩ := Kd.at_string W.out z L M; have B := A; cases P; replace A := cX HB A; replace L := eq_true L; replace M := eq_true M; refine start_ (n := 22) (S := fun w' => w'.cell? (D.add (z).toNat) = some (.string (rdOf ByteArray.empty E z))) (ds := []) (bl 22 0) (by kernel_rfl) rfl rfl (((HB.out.cell (World.block_lt_of_cell? w _ B)).trans B)) (fun hHeld => ?_); refine with_tabW tabardref04_Rises.tab4 tabardref04_Rises.bits4 (fun HT_ HW_ => ?_); generalize wr.drew = aG at HB A hHeld ⊢; refine pu_ 0 10 (bl 22 1) HT_ ?_; refine pu_ 1 11 (bl 22 3) HT_ ?_; refine pu_ 2 12 (bl 22 7) HT_ ?_; refine take_ (i := 3) (N := some 13) (v := ?_) (a' := ?_) (bl 22 15) rfl rfl (take_ofW HT_.out HW_.out (by kernel_rfl)) (fun _ _ _ h => h) (Or.inl ⟨by rfl, ?_⟩) hHeld ?_ ?_; rotate_left
       ·intro w' s0
        go_simp
        with_reducible rfl
       rotate_left
       ·simp only [Act.put, sA, sB, sC, i64_w, i32_w]
        rfl
       refine one_ (i := 4) (N := some 14) (bl 22 31) rfl rfl (one_of HT_.out (by kernel_rfl)) (by decide) (fun K hK => ?_); refine gS_ Try.func75 #[.string (rdOf ByteArray.empty E z)] ?_
       with_reducible refine (tabardref04_Name.calls k1 (rdOf ByteArray.empty E z) true _ A4.out).mono ?_
       rintro e aH ⟨rfl, hb⟩; refine ⟨_, rfl, ?_⟩; replace HB := hS0 HB hb
       (try clear hb)
       (try clear ah)
       (try clear hk)
       (try clear hi)
       refine hK.out _ _ (((HB.out.cell (World.block_lt_of_cell? w _ B)).trans B)) (fun hHeld => ?_); clear hK K; refine nm_ 14 ?_; refine pu_ 5 15 (bl 22 63) HT_ ?_; refine pu_ 6 16 (bl 22 127) HT_ ?_; refine pu_ 7 17 (bl 22 255) HT_ ?_; refine pu_ 8 18 (bl 22 511) HT_ ?_; refine pu_ 9 19 (bl 22 1023) HT_ ?_; refine pn_ 10 20 (bl 22 2047) HT_ ?_; refine pn_ 11 21 (bl 22 4095) HT_ ?_; refine pn_ 12 22 (bl 22 8191) HT_ ?_; refine pn_ 13 23 (bl 22 16383) HT_ ?_; refine pn_ 14 24 (bl 22 32767) HT_ ?_; refine pn_ 15 25 (bl 22 65535) HT_ ?_; refine pn_ 16 26 (bl 22 131071) HT_ ?_; refine pn_ 17 27 (bl 22 262143) HT_ ?_; refine pn_ 18 28 (bl 22 524287) HT_ ?_; refine pn_ 19 29 (bl 22 1048575) HT_ ?_; refine pu_ 20 30 (bl 22 2097151) HT_ ?_; refine pu_ 21 31 (bl 22 4194303) HT_ ?_; refine done_ (done_of HT_.out (by kernel_rfl)) ?_
       try go_wp2
       go_roundg k1
       case measure => have := HK1.out; omega
       case rel => exact ⟨(wrap64 (z + 1)), sI, H', ⟨by have := HK1.out; omega⟩, bT0 HB⟩
     ·replace c5 := Bool.eq_false_iff.mpr c5; subst c5
      rw [if_neg nF] at H; obtain rfl := Option.some.inj H
      try go_wp2
      replace HB := aM (below_drew1 HB.out); have L : 0 ≤ (z : Int) := oT aO; have M : z < (E.length : Int) := oT aO; obtain ⟨D, P, A⟩ := Kd.at_string W.out z L M; have B := A; cases P; replace A := cX HB A; replace L := eq_true L; replace M := eq_true M; refine start_ (n := 22) (S := fun w' => w'.cell? (D.add (z).toNat) = some (.string (rdOf ByteArray.empty E z))) (ds := []) (bl 22 0) (by kernel_rfl) rfl rfl (((HB.out.cell (World.block_lt_of_cell? w _ B)).trans B)) (fun hHeld => ?_); refine with_tabW tabardref04_Rises.tab4 tabardref04_Rises.bits4 (fun HT_ HW_ => ?_); generalize wr.drew = aI at HB A hHeld ⊢; refine pu_ 0 10 (bl 22 1) HT_ ?_; refine pu_ 1 11 (bl 22 3) HT_ ?_; refine pu_ 2 12 (bl 22 7) HT_ ?_; refine take_ (i := 3) (N := some 13) (v := ?_) (a' := ?_) (bl 22 15) rfl rfl (take_ofW HT_.out HW_.out (by kernel_rfl)) (fun _ _ _ h => h) (Or.inl ⟨by rfl, ?_⟩) hHeld ?_ ?_; rotate_left
      ·intro w' s0
       go_simp
       with_reducible rfl
      rotate_left
      ·simp only [Act.put, sA, sB, sC, i64_w, i32_w]
       rfl
      refine one_ (i := 4) (N := some 14) (bl 22 31) rfl rfl (one_of HT_.out (by kernel_rfl)) (by decide) (fun K hK => ?_); refine gS_ Try.func75 #[.string (rdOf ByteArray.empty E z)] ?_
      with_reducible refine (tabardref04_Name.calls k1 (rdOf ByteArray.empty E z) false _ A4.out).mono ?_
      rintro e aJ ⟨rfl, hb⟩; refine ⟨_, rfl, ?_⟩; replace HB := hS0 HB hb
      (try clear hb)
      (try clear ah)
      (try clear hk)
      (try clear hi)
      refine hK.out _ _ (((HB.out.cell (World.block_lt_of_cell? w _ B)).trans B)) (fun hHeld => ?_); clear hK K; refine nm_ 14 ?_; refine pu_ 5 15 (bl 22 63) HT_ ?_; refine pu_ 6 16 (bl 22 127) HT_ ?_; refine pn_ 7 17 (bl 22 255) HT_ ?_; refine pn_ 8 18 (bl 22 511) HT_ ?_; refine pn_ 9 19 (bl 22 1023) HT_ ?_; refine pn_ 10 20 (bl 22 2047) HT_ ?_; refine pn_ 11 21 (bl 22 4095) HT_ ?_; refine pn_ 12 22 (bl 22 8191) HT_ ?_; refine pn_ 13 23 (bl 22 16383) HT_ ?_; refine pn_ 14 24 (bl 22 32767) HT_ ?_; refine pn_ 15 25 (bl 22 65535) HT_ ?_; refine pn_ 16 26 (bl 22 131071) HT_ ?_; refine pn_ 17 27 (bl 22 262143) HT_ ?_; refine pn_ 18 28 (bl 22 524287) HT_ ?_; refine pn_ 19 29 (bl 22 1048575) HT_ ?_; refine pn_ 20 30 (bl 22 2097151) HT_ ?_; refine pu_ 21 31 (bl 22 4194303) HT_ ?_; refine done_ (done_of HT_.out (by kernel_rfl)) ?_
      try go_wp2
      go_ret
      exact ⟨eW, bO HB.out⟩
    ·exact nX c3 H
   ·rw [if_neg c2] at H; have aq := decide_eq_false c2; clear c2; obtain rfl := Option.some.inj H
    go_wp2
    go_ret
    exact ⟨eW, bO HB.out⟩

end Go.Proofs.Ythgoonohpfoagaa.X
