/- Functions of the seat, printed, and that the program's calls come to them; no condition. -/
import Derived.Test.YtninoenmhcbonaaX0
import Derived.Test.YtninoenmhcbonaaX34
namespace Go.Proofs.Ytninoenmhcbonaa.X
open Go.RowKit Go.Proofs.YtninoenmhcbonaaW.PrintWords Go.Proofs.YtninoenmhcbonaaW.PrintLast Go.Proofs.YtninoenmhcbonaaW.PrintMore
attribute [local go_sem] max2_int min2_int max_two min_two max_three min_three max_four min_four
set_option linter.unusedVariables false
set_option linter.unusedSimpArgs false
set_option maxHeartbeats 8000000
set_option maxRecDepth 100000

def Fja.l0 : Nat → Int → Bool → List Int → Bool → List Int → Option (Int)
 | 0, _, _, _, _, _ => none
 | k + 1, x5, x459000, x459001, x460000, x460001 => if x5 ≥ 0 then ((Fjb.f x459000 x459001 x5).bind fun t460 => ((Fjb.f x460000 x460001 x5).bind fun t461 => (if t460 < t461 then (some (-1)) else ((Fjb.f x459000 x459001 x5).bind fun t462 => ((Fjb.f x460000 x460001 x5).bind fun t463 => (if t462 > t463 then (some 1) else (Fja.l0 k (wrap64 (x5 - 1)) x459000 x459001 x460000 x460001))))))) else (some 0)
def Fja.f (k : Nat) (a0_0 : Bool) (l0_1 : List Int) (a1_0 : Bool) (l1_1 : List Int) : Option (Int) := Fja.l0 k (wrap64 ((mx (l0_1.length : Int) (l1_1.length : Int)) - 1)) a0_0 l0_1 a1_0 l1_1
theorem Fja.mono_l : ∀ k, (∀ y0 y1 y2 y3 y4, LeO (Fja.l0 k y0 y1 y2 y3 y4) (Fja.l0 (k + 1) y0 y1 y2 y3 y4))
 | 0 => fun _ _ _ _ _ r h => by simp [Fja.l0] at h
 | k + 1 => by
  have ih0 := Fja.mono_l k
  ·intro y0 y1 y2 y3 y4
   unfold Fja.l0
   repeat' first | (with_reducible first | exact ih0 _ _ _ _ _ | exact lA | apply lI | refine lB ?_ fun _ => ?_) | exact lN _ | apply lI | refine lB ?_ fun _ => ?_
theorem Fja.mono : ∀ a0 a1 a2 a3 k, LeO (Fja.f k a0 a1 a2 a3) (Fja.f (k + 1) a0 a1 a2 a3) := by
 intro a0 a1 a2 a3 k; have ih0 := Fja.mono_l k
 unfold Fja.f
 repeat' first | (with_reducible first | exact ih0 _ _ _ _ _ | exact lA | apply lI | refine lB ?_ fun _ => ?_) | exact lN _ | apply lI | refine lB ?_ fun _ => ?_
theorem Fja.calls (k : Nat) (G : Bool) (L : Option Addr) (M : Nat) (B : List Int) (I : Bool) (O : Option Addr) (P : Nat) (D : List Int) (r : Int) (w : World) (ak : Kd.C (Kd.int .u64) w L B.length B) (al : B.length ≤ M) (am : Kd.C (Kd.int .u64) w O D.length D) (an : D.length ≤ P) (h : Fja.f k G B I D = some r) :
  Calls Try.prog 105 #[.agg #[.bool G, .slice L B.length M], .agg #[.bool I, .slice O D.length P]] w fun e w' => e = .returned (.int .i64 r) ∧ Below w.heap.size w w' := by
 have hu127 := Try.underlying127; have V := aM ak; have W := aM al; clear ak al; have Y := aM am; have Z := aM an; clear am an; have HB := aM (Below.refl w.heap.size w); rw [Fja.f] at h; have H := h; clear h; obtain ⟨af, U⟩ : ∃ j_ : Int, (mx (B.length : Int) (D.length : Int)) = j_ := ⟨_, rfl⟩
 first | rw [U] at H | simp only [U] at H
 (try (have hji3l : 0 ≤ af := by (rw [← U]; unfold mx; (repeat' split) <;> omega)))
 (try (have hji3m : 0 ≤ af := by omega))
 have ax : (if (B.length : Int) < (D.length : Int) then (D.length : Int) else (B.length : Int)) = af := U
 (try (have hji3_n : (if B.length < D.length then (D.length : Int) else (B.length : Int)) = af := by rw [← ax]; simp only [Int.ofNat_lt]))
 have H' := aM H; clear H
 go_enter Try.func105, Try.ntmps105
 go_wp2_with (first | ((with_reducible refine gate_dst (N := 2) rfl ?_); refine be_ (cs := #[.bool G, .slice L B.length M]) (t := 127) ?_; intro Q hg w4 aS hb; have z := aM (aS); have aO := gE hg (bP0 HB); have F := gE hg (bP0 HB); replace HB := hS0 HB hb; clear hb aS hg) | ((with_reducible refine gate_dst (N := 3) rfl ?_); refine be_ (cs := #[.bool I, .slice O D.length P]) (t := 127) ?_; intro R hg w5 aS hb; have A := aM (aS); have aP := gE hg (bP1 HB F); have J := gE hg (bP1 HB F); replace HB := hS1 HB F hb; have ag := nL hg z; have ah := nG hg z; replace z := kB z hb; clear hb aS hg; have aQ := ag.out; have aR := ah.out; obtain ⟨aD, aE, aF, aG⟩ := bG2 z; obtain ⟨aH, aI, aJ, aK⟩ := bG2 A))
 go_loopg [5] k (fun kq v5 w' => ∃ (E : Int), v5 = .int .i64 E ∧ Aside0 (Fja.l0 kq E G B I D = some r) ∧ Aside0 (kq ≤ k) ∧ Aside0 (w'.heap[Q]? = some (.cells #[.bool G, (.slice L B.length M)] 127 (0, 0))) ∧ Aside0 (w'.heap[R]? = some (.cells #[.bool I, (.slice O D.length P)] 127 (0, 0))) ∧ BA w w')
 case atStart => exact ⟨(wrap64 ((af) - 1)), (by first | rfl | (simp; done) | (simp only [← U] <;> (first | rfl | simp)) | (simp [*]; done)), H', ⟨Nat.le_refl _⟩, kQ z, kQ A, bT2 HB F J⟩
 case round =>
  clear H'
  obtain ⟨E, rfl, HA, bb, z, A, HB⟩ := hrel; cases gk with
  | zero => exact absurd HA.out (by simp [Fja.l0])
  | succ k1 =>
   have H := HA.out; clear HA; simp only [Fja.l0] at H
   apply iB H <;> clear H <;> intro c9 H
   ·have aC := dT c9; clear c9; apply bSx H; clear H; intro ad aq H; apply bSx H; clear H; intro ae au H
    apply iB H <;> clear H <;> intro ab H
    ·have ay := dT ab; clear ab; obtain rfl := Option.some.inj H
     try go_wp2
     replace z := kD z; replace A := kD A; replace HB := aM (below_drew1 HB.out); refine start_ (n := 7) (S := fun w' => w'.cell? ⟨Q, 0, none⟩ = some (.bool G) ∧ w'.cell? ⟨Q, 1, none⟩ = some (.slice L B.length M) ∧ w'.cell? ⟨R, 0, none⟩ = some (.bool I) ∧ w'.cell? ⟨R, 1, none⟩ = some (.slice O D.length P)) (ds := []) (bl 7 0) (by kernel_rfl) rfl rfl ⟨(blk_cell z.out 0).trans rfl, (blk_cell z.out 1).trans rfl, (blk_cell A.out 0).trans rfl, (blk_cell A.out 1).trans rfl⟩ (fun ao => ?_); generalize wr.drew = aT at z A HB ao ⊢; refine pure_ (i := 1) (N := some 19) (v := ?_) (a' := ?_) (bl 7 2) rfl rfl (by kernel_rfl) (fun _ _ _ h => h) (Or.inl ⟨by rfl, ?_⟩) ?_ ?_; rotate_left
     ·intro w'
      go_simp
      with_reducible rfl
     rotate_left
     ·simp only [Act.put, sA, sB, sC, i64_w, i32_w]
      rfl
     refine pure_ (i := 4) (N := some 22) (v := ?_) (a' := ?_) (bl 7 18) rfl rfl (by kernel_rfl) (fun _ _ _ h => h) (Or.inl ⟨by rfl, ?_⟩) ?_ ?_; rotate_left
     ·intro w'
      go_simp
      with_reducible rfl
     rotate_left
     ·simp only [Act.put, sA, sB, sC, i64_w, i32_w]
      rfl
     refine take_ (i := 0) (N := some 18) (v := ?_) (a' := ?_) (bl 7 19) rfl rfl (by kernel_rfl) (fun _ _ _ h => h) (Or.inl ⟨by rfl, ?_⟩) ao ?_ ?_; rotate_left
     ·rintro w' ⟨s0, s1, s2, s3⟩
      go_simp
      with_reducible rfl
     rotate_left
     ·simp only [Act.put, sA, sB, sC, i64_w, i32_w]
      rfl
     refine take_ (i := 3) (N := some 21) (v := ?_) (a' := ?_) (bl 7 27) rfl rfl (by kernel_rfl) (fun _ _ _ h => h) (Or.inl ⟨by rfl, ?_⟩) ao ?_ ?_; rotate_left
     ·rintro w' ⟨s0, s1, s2, s3⟩
      go_simp
      with_reducible rfl
     rotate_left
     ·simp only [Act.put, sA, sB, sC, i64_w, i32_w]
      rfl
     refine one_ (i := 2) (N := some 20) (bl 7 31) rfl rfl (by kernel_rfl) (by decide) (fun K hK => ?_); refine gS_ Try.func111 #[.agg #[.bool G, .slice L B.length M], .int .i64 E] ?_
     with_reducible refine (Fjb.calls G _ _ B E ad _ ?s1 ?s2 aq.out).mono ?_
     (case s1 => exact cB V HB)
     (case s2 => exact W.out)
     rintro e aU ⟨rfl, hb⟩; refine ⟨_, rfl, ?_⟩; replace z := kB z hb; replace A := kB A hb; replace HB := hS2 HB F J hb
     refine hK.out _ _ ⟨(blk_cell z.out 0).trans rfl, (blk_cell z.out 1).trans rfl, (blk_cell A.out 0).trans rfl, (blk_cell A.out 1).trans rfl⟩ (fun ao => ?_); clear hK K; refine nm_ 20 ?_; refine one_ (i := 5) (N := some 23) (bl 7 63) rfl rfl (by kernel_rfl) (by decide) (fun K hK => ?_); refine gS_ Try.func111 #[.agg #[.bool I, .slice O D.length P], .int .i64 E] ?_
     with_reducible refine (Fjb.calls I _ _ D E ae _ ?s1 ?s2 au.out).mono ?_
     (case s1 => exact cB Y HB)
     (case s2 => exact Z.out)
     rintro e aV ⟨rfl, hb⟩; refine ⟨_, rfl, ?_⟩; replace z := kB z hb; replace A := kB A hb; replace HB := hS2 HB F J hb
     refine hK.out _ _ ⟨(blk_cell z.out 0).trans rfl, (blk_cell z.out 1).trans rfl, (blk_cell A.out 0).trans rfl, (blk_cell A.out 1).trans rfl⟩ (fun ao => ?_); clear hK K; refine nm_ 23 ?_; refine pure_ (i := 6) (N := some 24) (v := ?_) (a' := ?_) (bl 7 127) rfl rfl (by kernel_rfl) (fun _ _ _ h => h) (Or.inl ⟨by rfl, ?_⟩) ?_ ?_; rotate_left
     ·intro w'
      go_simp
      with_reducible rfl
     rotate_left
     ·simp only [Act.put, sA, sB, sC, i64_w, i32_w]
      rfl
     refine done_ (by kernel_rfl) ?_
     try go_wp2
     go_ret
     exact ⟨by first | rfl | (simp [errW_none, errW_some] <;> rfl) | (simp only [← U]; first | rfl | (simp [errW_none, errW_some] <;> rfl)) | (simp [*, errW_none, errW_some] <;> rfl), bS2 HB.out F.out J.out⟩
    ·have ay := decide_eq_false ab; clear ab; apply bSx H; clear H; intro ai aA H; apply bSx H; clear H; intro aj aB H
     apply iB H <;> clear H <;> intro ac H
     ·have az := dT ac; clear ac; obtain rfl := Option.some.inj H
      try go_wp2
      replace z := kD z; replace A := kD A; replace HB := aM (below_drew1 HB.out); refine start_ (n := 7) (S := fun w' => w'.cell? ⟨Q, 0, none⟩ = some (.bool G) ∧ w'.cell? ⟨Q, 1, none⟩ = some (.slice L B.length M) ∧ w'.cell? ⟨R, 0, none⟩ = some (.bool I) ∧ w'.cell? ⟨R, 1, none⟩ = some (.slice O D.length P)) (ds := []) (bl 7 0) (by kernel_rfl) rfl rfl ⟨(blk_cell z.out 0).trans rfl, (blk_cell z.out 1).trans rfl, (blk_cell A.out 0).trans rfl, (blk_cell A.out 1).trans rfl⟩ (fun ao => ?_); generalize wr.drew = aW at z A HB ao ⊢; refine pure_ (i := 1) (N := some 19) (v := ?_) (a' := ?_) (bl 7 2) rfl rfl (by kernel_rfl) (fun _ _ _ h => h) (Or.inl ⟨by rfl, ?_⟩) ?_ ?_; rotate_left
      ·intro w'
       go_simp
       with_reducible rfl
      rotate_left
      ·simp only [Act.put, sA, sB, sC, i64_w, i32_w]
       rfl
      refine pure_ (i := 4) (N := some 22) (v := ?_) (a' := ?_) (bl 7 18) rfl rfl (by kernel_rfl) (fun _ _ _ h => h) (Or.inl ⟨by rfl, ?_⟩) ?_ ?_; rotate_left
      ·intro w'
       go_simp
       with_reducible rfl
      rotate_left
      ·simp only [Act.put, sA, sB, sC, i64_w, i32_w]
       rfl
      refine take_ (i := 0) (N := some 18) (v := ?_) (a' := ?_) (bl 7 19) rfl rfl (by kernel_rfl) (fun _ _ _ h => h) (Or.inl ⟨by rfl, ?_⟩) ao ?_ ?_; rotate_left
      ·rintro w' ⟨s0, s1, s2, s3⟩
       go_simp
       with_reducible rfl
      rotate_left
      ·simp only [Act.put, sA, sB, sC, i64_w, i32_w]
       rfl
      refine take_ (i := 3) (N := some 21) (v := ?_) (a' := ?_) (bl 7 27) rfl rfl (by kernel_rfl) (fun _ _ _ h => h) (Or.inl ⟨by rfl, ?_⟩) ao ?_ ?_; rotate_left
      ·rintro w' ⟨s0, s1, s2, s3⟩
       go_simp
       with_reducible rfl
      rotate_left
      ·simp only [Act.put, sA, sB, sC, i64_w, i32_w]
       rfl
      refine one_ (i := 2) (N := some 20) (bl 7 31) rfl rfl (by kernel_rfl) (by decide) (fun K hK => ?_); refine gS_ Try.func111 #[.agg #[.bool G, .slice L B.length M], .int .i64 E] ?_
      with_reducible refine (Fjb.calls G _ _ B E ad _ ?s1 ?s2 aq.out).mono ?_
      (case s1 => exact cB V HB)
      (case s2 => exact W.out)
      rintro e aX ⟨rfl, hb⟩; refine ⟨_, rfl, ?_⟩; replace z := kB z hb; replace A := kB A hb; replace HB := hS2 HB F J hb
      refine hK.out _ _ ⟨(blk_cell z.out 0).trans rfl, (blk_cell z.out 1).trans rfl, (blk_cell A.out 0).trans rfl, (blk_cell A.out 1).trans rfl⟩ (fun ao => ?_); clear hK K; refine nm_ 20 ?_; refine one_ (i := 5) (N := some 23) (bl 7 63) rfl rfl (by kernel_rfl) (by decide) (fun K hK => ?_); refine gS_ Try.func111 #[.agg #[.bool I, .slice O D.length P], .int .i64 E] ?_
      with_reducible refine (Fjb.calls I _ _ D E ae _ ?s1 ?s2 au.out).mono ?_
      (case s1 => exact cB Y HB)
      (case s2 => exact Z.out)
      rintro e aL ⟨rfl, hb⟩; refine ⟨_, rfl, ?_⟩; replace z := kB z hb; replace A := kB A hb; replace HB := hS2 HB F J hb
      refine hK.out _ _ ⟨(blk_cell z.out 0).trans rfl, (blk_cell z.out 1).trans rfl, (blk_cell A.out 0).trans rfl, (blk_cell A.out 1).trans rfl⟩ (fun ao => ?_); clear hK K; refine nm_ 23 ?_; refine pure_ (i := 6) (N := some 24) (v := ?_) (a' := ?_) (bl 7 127) rfl rfl (by kernel_rfl) (fun _ _ _ h => h) (Or.inl ⟨by rfl, ?_⟩) ?_ ?_; rotate_left
      ·intro w'
       go_simp
       with_reducible rfl
      rotate_left
      ·simp only [Act.put, sA, sB, sC, i64_w, i32_w]
       rfl
      refine done_ (by kernel_rfl) ?_
      try go_wp2
      replace z := kD z; replace A := kD A; replace HB := aM (below_drew1 HB.out); refine start_ (n := 7) (S := fun w' => w'.cell? ⟨Q, 0, none⟩ = some (.bool G) ∧ w'.cell? ⟨Q, 1, none⟩ = some (.slice L B.length M) ∧ w'.cell? ⟨R, 0, none⟩ = some (.bool I) ∧ w'.cell? ⟨R, 1, none⟩ = some (.slice O D.length P)) (ds := []) (bl 7 0) (by kernel_rfl) rfl rfl ⟨(blk_cell z.out 0).trans rfl, (blk_cell z.out 1).trans rfl, (blk_cell A.out 0).trans rfl, (blk_cell A.out 1).trans rfl⟩ (fun ao => ?_); generalize aL.drew = aY at z A HB ao ⊢; refine pure_ (i := 1) (N := some 26) (v := ?_) (a' := ?_) (bl 7 2) rfl rfl (by kernel_rfl) (fun _ _ _ h => h) (Or.inl ⟨by rfl, ?_⟩) ?_ ?_; rotate_left
      ·intro w'
       go_simp
       with_reducible rfl
      rotate_left
      ·simp only [Act.put, sA, sB, sC, i64_w, i32_w]
       rfl
      refine pure_ (i := 4) (N := some 29) (v := ?_) (a' := ?_) (bl 7 18) rfl rfl (by kernel_rfl) (fun _ _ _ h => h) (Or.inl ⟨by rfl, ?_⟩) ?_ ?_; rotate_left
      ·intro w'
       go_simp
       with_reducible rfl
      rotate_left
      ·simp only [Act.put, sA, sB, sC, i64_w, i32_w]
       rfl
      refine take_ (i := 0) (N := some 25) (v := ?_) (a' := ?_) (bl 7 19) rfl rfl (by kernel_rfl) (fun _ _ _ h => h) (Or.inl ⟨by rfl, ?_⟩) ao ?_ ?_; rotate_left
      ·rintro w' ⟨s0, s1, s2, s3⟩
       go_simp
       with_reducible rfl
      rotate_left
      ·simp only [Act.put, sA, sB, sC, i64_w, i32_w]
       rfl
      refine take_ (i := 3) (N := some 28) (v := ?_) (a' := ?_) (bl 7 27) rfl rfl (by kernel_rfl) (fun _ _ _ h => h) (Or.inl ⟨by rfl, ?_⟩) ao ?_ ?_; rotate_left
      ·rintro w' ⟨s0, s1, s2, s3⟩
       go_simp
       with_reducible rfl
      rotate_left
      ·simp only [Act.put, sA, sB, sC, i64_w, i32_w]
       rfl
      refine one_ (i := 2) (N := some 27) (bl 7 31) rfl rfl (by kernel_rfl) (by decide) (fun K hK => ?_); refine gS_ Try.func111 #[.agg #[.bool G, .slice L B.length M], .int .i64 E] ?_
      with_reducible refine (Fjb.calls G _ _ B E ai _ ?s1 ?s2 aA.out).mono ?_
      (case s1 => exact cB V HB)
      (case s2 => exact W.out)
      rintro e aZ ⟨rfl, hb⟩; refine ⟨_, rfl, ?_⟩; replace z := kB z hb; replace A := kB A hb; replace HB := hS2 HB F J hb
      refine hK.out _ _ ⟨(blk_cell z.out 0).trans rfl, (blk_cell z.out 1).trans rfl, (blk_cell A.out 0).trans rfl, (blk_cell A.out 1).trans rfl⟩ (fun ao => ?_); clear hK K; refine nm_ 27 ?_; refine one_ (i := 5) (N := some 30) (bl 7 63) rfl rfl (by kernel_rfl) (by decide) (fun K hK => ?_); refine gS_ Try.func111 #[.agg #[.bool I, .slice O D.length P], .int .i64 E] ?_
      with_reducible refine (Fjb.calls I _ _ D E aj _ ?s1 ?s2 aB.out).mono ?_
      (case s1 => exact cB Y HB)
      (case s2 => exact Z.out)
      rintro e a4 ⟨rfl, hb⟩; refine ⟨_, rfl, ?_⟩; replace z := kB z hb; replace A := kB A hb; replace HB := hS2 HB F J hb
      refine hK.out _ _ ⟨(blk_cell z.out 0).trans rfl, (blk_cell z.out 1).trans rfl, (blk_cell A.out 0).trans rfl, (blk_cell A.out 1).trans rfl⟩ (fun ao => ?_); clear hK K; refine nm_ 30 ?_; refine pure_ (i := 6) (N := some 31) (v := ?_) (a' := ?_) (bl 7 127) rfl rfl (by kernel_rfl) (fun _ _ _ h => h) (Or.inl ⟨by rfl, ?_⟩) ?_ ?_; rotate_left
      ·intro w'
       go_simp
       with_reducible rfl
      rotate_left
      ·simp only [Act.put, sA, sB, sC, i64_w, i32_w]
       rfl
      refine done_ (by kernel_rfl) ?_
      try go_wp2
      go_ret
      exact ⟨by first | rfl | (simp [errW_none, errW_some] <;> rfl) | (simp only [← U]; first | rfl | (simp [errW_none, errW_some] <;> rfl)) | (simp [*, errW_none, errW_some] <;> rfl), bS2 HB.out F.out J.out⟩
     ·have az := decide_eq_false ac; clear ac; have H' := aM H; clear H
      try go_wp2
      replace z := kD z; replace A := kD A; replace HB := aM (below_drew1 HB.out); refine start_ (n := 7) (S := fun w' => w'.cell? ⟨Q, 0, none⟩ = some (.bool G) ∧ w'.cell? ⟨Q, 1, none⟩ = some (.slice L B.length M) ∧ w'.cell? ⟨R, 0, none⟩ = some (.bool I) ∧ w'.cell? ⟨R, 1, none⟩ = some (.slice O D.length P)) (ds := []) (bl 7 0) (by kernel_rfl) rfl rfl ⟨(blk_cell z.out 0).trans rfl, (blk_cell z.out 1).trans rfl, (blk_cell A.out 0).trans rfl, (blk_cell A.out 1).trans rfl⟩ (fun ao => ?_); generalize wr.drew = a5 at z A HB ao ⊢; refine pure_ (i := 1) (N := some 19) (v := ?_) (a' := ?_) (bl 7 2) rfl rfl (by kernel_rfl) (fun _ _ _ h => h) (Or.inl ⟨by rfl, ?_⟩) ?_ ?_; rotate_left
      ·intro w'
       go_simp
       with_reducible rfl
      rotate_left
      ·simp only [Act.put, sA, sB, sC, i64_w, i32_w]
       rfl
      refine pure_ (i := 4) (N := some 22) (v := ?_) (a' := ?_) (bl 7 18) rfl rfl (by kernel_rfl) (fun _ _ _ h => h) (Or.inl ⟨by rfl, ?_⟩) ?_ ?_; rotate_left
      ·intro w'
       go_simp
       with_reducible rfl
      rotate_left
      ·simp only [Act.put, sA, sB, sC, i64_w, i32_w]
       rfl
      refine take_ (i := 0) (N := some 18) (v := ?_) (a' := ?_) (bl 7 19) rfl rfl (by kernel_rfl) (fun _ _ _ h => h) (Or.inl ⟨by rfl, ?_⟩) ao ?_ ?_; rotate_left
      ·rintro w' ⟨s0, s1, s2, s3⟩
       go_simp
       with_reducible rfl
      rotate_left
      ·simp only [Act.put, sA, sB, sC, i64_w, i32_w]
       rfl
      refine take_ (i := 3) (N := some 21) (v := ?_) (a' := ?_) (bl 7 27) rfl rfl (by kernel_rfl) (fun _ _ _ h => h) (Or.inl ⟨by rfl, ?_⟩) ao ?_ ?_; rotate_left
      ·rintro w' ⟨s0, s1, s2, s3⟩
       go_simp
       with_reducible rfl
      rotate_left
      ·simp only [Act.put, sA, sB, sC, i64_w, i32_w]
       rfl
      refine one_ (i := 2) (N := some 20) (bl 7 31) rfl rfl (by kernel_rfl) (by decide) (fun K hK => ?_); refine gS_ Try.func111 #[.agg #[.bool G, .slice L B.length M], .int .i64 E] ?_
      with_reducible refine (Fjb.calls G _ _ B E ad _ ?s1 ?s2 aq.out).mono ?_
      (case s1 => exact cB V HB)
      (case s2 => exact W.out)
      rintro e a6 ⟨rfl, hb⟩; refine ⟨_, rfl, ?_⟩; replace z := kB z hb; replace A := kB A hb; replace HB := hS2 HB F J hb
      refine hK.out _ _ ⟨(blk_cell z.out 0).trans rfl, (blk_cell z.out 1).trans rfl, (blk_cell A.out 0).trans rfl, (blk_cell A.out 1).trans rfl⟩ (fun ao => ?_); clear hK K; refine nm_ 20 ?_; refine one_ (i := 5) (N := some 23) (bl 7 63) rfl rfl (by kernel_rfl) (by decide) (fun K hK => ?_); refine gS_ Try.func111 #[.agg #[.bool I, .slice O D.length P], .int .i64 E] ?_
      with_reducible refine (Fjb.calls I _ _ D E ae _ ?s1 ?s2 au.out).mono ?_
      (case s1 => exact cB Y HB)
      (case s2 => exact Z.out)
      rintro e aN ⟨rfl, hb⟩; refine ⟨_, rfl, ?_⟩; replace z := kB z hb; replace A := kB A hb; replace HB := hS2 HB F J hb
      refine hK.out _ _ ⟨(blk_cell z.out 0).trans rfl, (blk_cell z.out 1).trans rfl, (blk_cell A.out 0).trans rfl, (blk_cell A.out 1).trans rfl⟩ (fun ao => ?_); clear hK K; refine nm_ 23 ?_; refine pure_ (i := 6) (N := some 24) (v := ?_) (a' := ?_) (bl 7 127) rfl rfl (by kernel_rfl) (fun _ _ _ h => h) (Or.inl ⟨by rfl, ?_⟩) ?_ ?_; rotate_left
      ·intro w'
       go_simp
       with_reducible rfl
      rotate_left
      ·simp only [Act.put, sA, sB, sC, i64_w, i32_w]
       rfl
      refine done_ (by kernel_rfl) ?_
      try go_wp2
      replace z := kD z; replace A := kD A; replace HB := aM (below_drew1 HB.out); refine start_ (n := 7) (S := fun w' => w'.cell? ⟨Q, 0, none⟩ = some (.bool G) ∧ w'.cell? ⟨Q, 1, none⟩ = some (.slice L B.length M) ∧ w'.cell? ⟨R, 0, none⟩ = some (.bool I) ∧ w'.cell? ⟨R, 1, none⟩ = some (.slice O D.length P)) (ds := []) (bl 7 0) (by kernel_rfl) rfl rfl ⟨(blk_cell z.out 0).trans rfl, (blk_cell z.out 1).trans rfl, (blk_cell A.out 0).trans rfl, (blk_cell A.out 1).trans rfl⟩ (fun ao => ?_); generalize aN.drew = a7 at z A HB ao ⊢; refine pure_ (i := 1) (N := some 26) (v := ?_) (a' := ?_) (bl 7 2) rfl rfl (by kernel_rfl) (fun _ _ _ h => h) (Or.inl ⟨by rfl, ?_⟩) ?_ ?_; rotate_left
      ·intro w'
       go_simp
       with_reducible rfl
      rotate_left
      ·simp only [Act.put, sA, sB, sC, i64_w, i32_w]
       rfl
      refine pure_ (i := 4) (N := some 29) (v := ?_) (a' := ?_) (bl 7 18) rfl rfl (by kernel_rfl) (fun _ _ _ h => h) (Or.inl ⟨by rfl, ?_⟩) ?_ ?_; rotate_left
      ·intro w'
       go_simp
       with_reducible rfl
      rotate_left
      ·simp only [Act.put, sA, sB, sC, i64_w, i32_w]
       rfl
      refine take_ (i := 0) (N := some 25) (v := ?_) (a' := ?_) (bl 7 19) rfl rfl (by kernel_rfl) (fun _ _ _ h => h) (Or.inl ⟨by rfl, ?_⟩) ao ?_ ?_; rotate_left
      ·rintro w' ⟨s0, s1, s2, s3⟩
       go_simp
       with_reducible rfl
      rotate_left
      ·simp only [Act.put, sA, sB, sC, i64_w, i32_w]
       rfl
      refine take_ (i := 3) (N := some 28) (v := ?_) (a' := ?_) (bl 7 27) rfl rfl (by kernel_rfl) (fun _ _ _ h => h) (Or.inl ⟨by rfl, ?_⟩) ao ?_ ?_; rotate_left
      ·rintro w' ⟨s0, s1, s2, s3⟩
       go_simp
       with_reducible rfl
      rotate_left
      ·simp only [Act.put, sA, sB, sC, i64_w, i32_w]
       rfl
      refine one_ (i := 2) (N := some 27) (bl 7 31) rfl rfl (by kernel_rfl) (by decide) (fun K hK => ?_); refine gS_ Try.func111 #[.agg #[.bool G, .slice L B.length M], .int .i64 E] ?_
      with_reducible refine (Fjb.calls G _ _ B E ai _ ?s1 ?s2 aA.out).mono ?_
      (case s1 => exact cB V HB)
      (case s2 => exact W.out)
      rintro e a8 ⟨rfl, hb⟩; refine ⟨_, rfl, ?_⟩; replace z := kB z hb; replace A := kB A hb; replace HB := hS2 HB F J hb
      refine hK.out _ _ ⟨(blk_cell z.out 0).trans rfl, (blk_cell z.out 1).trans rfl, (blk_cell A.out 0).trans rfl, (blk_cell A.out 1).trans rfl⟩ (fun ao => ?_); clear hK K; refine nm_ 27 ?_; refine one_ (i := 5) (N := some 30) (bl 7 63) rfl rfl (by kernel_rfl) (by decide) (fun K hK => ?_); refine gS_ Try.func111 #[.agg #[.bool I, .slice O D.length P], .int .i64 E] ?_
      with_reducible refine (Fjb.calls I _ _ D E aj _ ?s1 ?s2 aB.out).mono ?_
      (case s1 => exact cB Y HB)
      (case s2 => exact Z.out)
      rintro e a9 ⟨rfl, hb⟩; refine ⟨_, rfl, ?_⟩; replace z := kB z hb; replace A := kB A hb; replace HB := hS2 HB F J hb
      refine hK.out _ _ ⟨(blk_cell z.out 0).trans rfl, (blk_cell z.out 1).trans rfl, (blk_cell A.out 0).trans rfl, (blk_cell A.out 1).trans rfl⟩ (fun ao => ?_); clear hK K; refine nm_ 30 ?_; refine pure_ (i := 6) (N := some 31) (v := ?_) (a' := ?_) (bl 7 127) rfl rfl (by kernel_rfl) (fun _ _ _ h => h) (Or.inl ⟨by rfl, ?_⟩) ?_ ?_; rotate_left
      ·intro w'
       go_simp
       with_reducible rfl
      rotate_left
      ·simp only [Act.put, sA, sB, sC, i64_w, i32_w]
       rfl
      refine done_ (by kernel_rfl) ?_
      try go_wp2
      go_roundg k1
      case measure => have := bb.out; omega
      case rel => exact ⟨(wrap64 (E - 1)), sI, H', ⟨by have := bb.out; omega⟩, kQ z, kQ A, bT2 HB F J⟩
   ·have aC := decide_eq_false c9; clear c9; obtain rfl := Option.some.inj H
    go_wp2
    go_ret
    exact ⟨by first | rfl | (simp [errW_none, errW_some] <;> rfl) | (simp only [← U]; first | rfl | (simp [errW_none, errW_some] <;> rfl)) | (simp [*, errW_none, errW_some] <;> rfl), bS2 HB.out F.out J.out⟩
def Fk.l0 : Nat → List Int → Int → Int → Bool → List Int → Bool → List Int → Option (List Int)
 | 0, _, _, _, _, _, _, _ => none
 | k + 1, x5, x6, x7, x465000, x465001, x466000, x466001 => if x7 < (x465001.length : Int) then ((Fjb.f x465000 x465001 x7).bind fun t466 => ((Fjb.f x466000 x466001 x7).bind fun t467 => (if x5.length < 17592186044416 then (Fk.l0 k (x5 ++ [Go.bits .and .u64 (IntKind.u64.wrap ((IntKind.u64.wrap ((IntKind.u64.wrap (t466 + 65536)) - t467)) - x6)) 65535]) (IntKind.u64.wrap (1 - ((IntKind.u64.wrap ((IntKind.u64.wrap ((IntKind.u64.wrap (t466 + 65536)) - t467)) - x6)) / 65536))) (wrap64 (x7 + 1)) x465000 x465001 x466000 x466001) else (none)))) else (some x5)
def Fk.f (k : Nat) (a0_0 : Bool) (l0_1 : List Int) (a1_0 : Bool) (l1_1 : List Int) : Option (List Int) := Fk.l0 k ([] : List Int) 0 0 a0_0 l0_1 a1_0 l1_1
theorem Fk.mono_l : ∀ k, (∀ y0 y1 y2 y3 y4 y5 y6, LeO (Fk.l0 k y0 y1 y2 y3 y4 y5 y6) (Fk.l0 (k + 1) y0 y1 y2 y3 y4 y5 y6))
 | 0 => fun _ _ _ _ _ _ _ r h => by simp [Fk.l0] at h
 | k + 1 => by
  have ih0 := Fk.mono_l k
  ·intro y0 y1 y2 y3 y4 y5 y6
   unfold Fk.l0
   repeat' first | (with_reducible first | exact ih0 _ _ _ _ _ _ _ | exact lA | apply lI | refine lB ?_ fun _ => ?_) | exact lN _ | apply lI | refine lB ?_ fun _ => ?_
theorem Fk.mono : ∀ a0 a1 a2 a3 k, LeO (Fk.f k a0 a1 a2 a3) (Fk.f (k + 1) a0 a1 a2 a3) := by
 intro a0 a1 a2 a3 k; have ih0 := Fk.mono_l k
 unfold Fk.f
 repeat' first | (with_reducible first | exact ih0 _ _ _ _ _ _ _ | exact lA | apply lI | refine lB ?_ fun _ => ?_) | exact lN _ | apply lI | refine lB ?_ fun _ => ?_
def Fk.T6 : Bool × List (List Nat × List Nat) := (true, [([], []), ([], []), ([0, 1], [0, 1]), ([2], [2]), ([], []), ([], []), ([4, 5, 2], [4, 5]), ([3, 6], [3, 6]), ([], []), ([7, 8], [7, 8]), ([9, 6, 0, 1, 2, 3, 4, 5, 6, 7, 8, 9], [9])])
def Fk.B6 : List Nat := [0, 0, 3, 7, 0, 0, 55, 127, 0, 511, 1023]
theorem Fk.tab6 : rtab .any (opsOf Try.f106 6) = Fk.T6 := by kernel_rfl
theorem Fk.bits6 : waitsOk Fk.T6.2 Fk.B6 = true := by kernel_rfl
theorem Fk.calls (k : Nat) (J : Bool) (O : Option Addr) (P : Nat) (D : List Int) (L : Bool) (Q : Option Addr) (U : Nat) (F : List Int) (r : List Int) (w : World) (ae : Kd.C (Kd.int .u64) w O D.length D) (af : D.length ≤ P) (ag : Kd.C (Kd.int .u64) w Q F.length F) (ah : F.length ≤ U) (h : Fk.f k J D L F = some r) :
  Calls Try.prog 106 #[.agg #[.bool J, .slice O D.length P], .agg #[.bool L, .slice Q F.length U]] w fun e w' => ∃ aq : Value, e = .returned (aq) ∧ Kd.R (Kd.int .u64) 137 w' w.heap.size (fun _ => True) aq r ∧ Below w.heap.size w w' := by
 have hu127 := Try.underlying127; have aj := aM ae; have ak := aM af; clear ae af; have al := aM ag; have am := aM ah; clear ag ah; have HB := aM (Below.refl w.heap.size w); rw [Fk.f] at h; have H := h; clear h; have H' := aM H; clear H
 go_enter Try.func106, Try.ntmps106
 go_wp2_with (first | ((with_reducible refine gate_dst (N := 2) rfl ?_); refine be_ (cs := #[.bool J, .slice O D.length P]) (t := 127) ?_; intro ac hg w3 aR hb; have z := aM (aR); have aJ := gE hg (bP0 HB); have B := gE hg (bP0 HB); replace HB := hS0 HB hb; clear hb aR hg) | ((with_reducible refine gate_dst (N := 3) rfl ?_); refine be_ (cs := #[.bool L, .slice Q F.length U]) (t := 127) ?_; intro ad hg w4 aR hb; have A := aM (aR); have aK := gE hg (bP1 HB B); have G := gE hg (bP1 HB B); replace HB := hS1 HB B hb; have W := nL hg z; have Y := nG hg z; replace z := kB z hb; clear hb aR hg))
 go_loopg [5, 6, 7] k (fun kq v5 v6 v7 w' => ∃ (V : List Int) (M : Int) (I : Int), v6 = .int .u64 M ∧ v7 = .int .i64 I ∧ Aside0 (Fk.l0 kq V M I J D L F = some r) ∧ Aside0 (kq ≤ k) ∧ RA (Kd.int .u64) 137 w' w v5 V ∧ Aside0 (w'.heap[ac]? = some (.cells #[.bool J, (.slice O D.length P)] 127 (0, 0))) ∧ Aside0 (w'.heap[ad]? = some (.cells #[.bool L, (.slice Q F.length U)] 127 (0, 0))) ∧ BA w w')
 case atStart => exact ⟨(([] : List Int)), (0), (0), sI, sI, H', ⟨Nat.le_refl _⟩, ⟨by first | exact Kd.R_nil _ _ _ _ _ | exact Kd.N_nil _ _ _ _ _ | exact Kd.V_nil _ _ _ _ _ | exact Kd.Q_nil _ _ _ _ _ | exact Kd.S_nil _ _ _ _ _⟩, kQ z, kQ A, bT2 HB B G⟩
 case round =>
  clear H'
  obtain ⟨V, M, I, rfl, rfl, HA, aV, E, z, A, HB⟩ := hrel; cases gk with
  | zero => exact absurd HA.out (by simp [Fk.l0])
  | succ k1 =>
   have H := HA.out; clear HA; simp only [Fk.l0] at H
   apply iB H <;> clear H <;> intro c5 H
   ·have av := dT c5; clear c5; apply bSx H; clear H; intro aa A6 H; apply bSx H; clear H; intro ab A7 H
    apply iN H; clear H; intro c8 H; have aw := aM c8; clear c8; obtain ⟨ax, Z⟩ : ∃ y_ : List Int, y_ = (V ++ [Go.bits .and .u64 (IntKind.u64.wrap ((IntKind.u64.wrap ((IntKind.u64.wrap (aa + 65536)) - ab)) - M)) 65535]) := ⟨_, rfl⟩
    first | replace H := rI Z H | rw [← Z] at H
    have ao := aM Z; clear Z; have H' := aM H; clear H; have aX := W.out; have aY := Y.out; obtain ⟨ay, az, aA, aC⟩ := bG2 z
    try go_wp2
    replace E := aM (Kd.R_drew E.out); replace z := kD z; replace A := kD A; replace HB := aM (below_drew1 HB.out); refine start_ (n := 11) (S := fun w' => w'.cell? ⟨ac, 0, none⟩ = some (.bool J) ∧ w'.cell? ⟨ac, 1, none⟩ = some (.slice O D.length P) ∧ w'.cell? ⟨ad, 0, none⟩ = some (.bool L) ∧ w'.cell? ⟨ad, 1, none⟩ = some (.slice Q F.length U)) (ds := []) (bl 11 0) (by kernel_rfl) rfl rfl ⟨(blk_cell z.out 0).trans rfl, (blk_cell z.out 1).trans rfl, (blk_cell A.out 0).trans rfl, (blk_cell A.out 1).trans rfl⟩ (fun an => ?_); refine with_tabW Fk.tab6 Fk.bits6 (fun ai aU => ?_); generalize wr.drew = a4 at E z A HB an ⊢; refine pu_ 1 17 (bl 11 2) ai ?_; refine pu_ 5 21 (bl 11 34) ai ?_; refine pu_ 8 24 (bl 11 290) ai ?_; refine tk4_ 0 16 (bl 11 291) ai aU an ?_; refine tk4_ 4 20 (bl 11 307) ai aU an ?_; refine one_ (i := 2) (N := some 18) (bl 11 311) rfl rfl (one_of ai.out (by kernel_rfl)) (by decide) (fun K hK => ?_); refine gS_ Try.func111 #[.agg #[.bool J, .slice O D.length P], .int .i64 I] ?_
    with_reducible refine (Fjb.calls J _ _ D I aa _ ?s1 ?s2 A6.out).mono ?_
    (case s1 => exact cB aj HB)
    (case s2 => exact ak.out)
    rintro e a5 ⟨rfl, hb⟩; refine ⟨_, rfl, ?_⟩; replace E := rB E hb; replace z := kB z hb; replace A := kB A hb; replace HB := hS2 HB B G hb
    refine hK.out _ _ ⟨(blk_cell z.out 0).trans rfl, (blk_cell z.out 1).trans rfl, (blk_cell A.out 0).trans rfl, (blk_cell A.out 1).trans rfl⟩ (fun an => ?_); clear hK K; refine nm_ 18 ?_; refine pu_ 3 19 (bl 11 319) ai ?_; refine one_ (i := 6) (N := some 22) (bl 11 383) rfl rfl (one_of ai.out (by kernel_rfl)) (by decide) (fun K hK => ?_); refine gS_ Try.func111 #[.agg #[.bool L, .slice Q F.length U], .int .i64 I] ?_
    with_reducible refine (Fjb.calls L _ _ F I ab _ ?s1 ?s2 A7.out).mono ?_
    (case s1 => exact cB al HB)
    (case s2 => exact am.out)
    rintro e a6 ⟨rfl, hb⟩; refine ⟨_, rfl, ?_⟩; replace E := rB E hb; replace z := kB z hb; replace A := kB A hb; replace HB := hS2 HB B G hb
    refine hK.out _ _ ⟨(blk_cell z.out 0).trans rfl, (blk_cell z.out 1).trans rfl, (blk_cell A.out 0).trans rfl, (blk_cell A.out 1).trans rfl⟩ (fun an => ?_); clear hK K; refine nm_ 22 ?_; refine pu_ 7 23 (bl 11 511) ai ?_; refine pu_ 9 25 (bl 11 1023) ai ?_; refine pu_ 10 8 (bl 11 2047) ai ?_; refine done_ (done_of ai.out (by kernel_rfl)) ?_
    try go_wp2_with (first | ((with_reducible refine gate_builtin (b := .append) (xs := #[.tmp 26, .tmp 29]) rfl ?_); at_builtin; refine Kd.R_append (Kd.int .u64) (w0 := w) w.heap.size rfl (.tmp 26) (.tmp 29) 125 137 (.int .u64 0) 8 rfl Try.underlying125 info137 rfl (by decide) (by omega) u5 V (Go.bits .and .u64 (IntKind.u64.wrap ((IntKind.u64.wrap ((IntKind.u64.wrap (aa + 65536)) - ab)) - M)) 65535) [.int .u64 (Go.bits .and .u64 (IntKind.u64.wrap ((IntKind.u64.wrap ((IntKind.u64.wrap (aa + 65536)) - ab)) - M)) 65535)] (fun _ => True) (fun _ => False) rfl rfl ?aP (fun _ hk => hk.elim) ?aF ?aO ?aB ?aS ?aL ?_; (case aP => exact rfl); (case aB => exact (bP2 HB B G)); (case aF => exact (fun _ _ => trivial)); (case aO => exact (rP E)); (case aS => exact (below_size (bP2 HB B G))); (case aL => have := aw.out; omega); intro aZ a7 ho hb hg hat; rw [← ao.out] at ho; replace z := kG z hg E; replace A := kG A hg E; replace HB := aM (hb); have ap := aM (ho); clear E; clear ho hb hg hat))
    go_roundg k1
    case measure => have := aV.out; omega
    case rel => exact ⟨(ax), (IntKind.u64.wrap (1 - ((IntKind.u64.wrap ((IntKind.u64.wrap ((IntKind.u64.wrap (aa + 65536)) - ab)) - M)) / 65536))), (wrap64 (I + 1)), sI, sI, H', ⟨by have := aV.out; omega⟩, rQ ap, kQ z, kQ A, bT2 HB B G⟩
   ·have av := decide_eq_false c5; clear c5; obtain rfl := Option.some.inj H; have aN := W.out; have aQ := Y.out; obtain ⟨aD, aE, aG, aH⟩ := bG2 z
    go_wp2
    go_ret
    exact ⟨_, eW, rO E.out, bS2 HB.out B.out G.out⟩
def Fj.f (k : Nat) (a0_0 : Bool) (l0_1 : List Int) (a1_0 : Bool) (l1_1 : List Int) : Option (Bool × List Int) := if (a0_0 == a1_0) = true then ((Fka.f k a0_0 l0_1 a1_0 l1_1).bind fun t474 => ((Fjc.f k a0_0 t474).bind fun bt477 => (some (bt477.1, bt477.2)))) else ((Fja.f k a0_0 l0_1 a1_0 l1_1).bind fun t481 => (if t481 ≥ 0 then ((Fk.f k a0_0 l0_1 a1_0 l1_1).bind fun t482 => ((Fjc.f k a0_0 t482).bind fun bt485 => (some (bt485.1, bt485.2)))) else ((Fk.f k a1_0 l1_1 a0_0 l0_1).bind fun t489 => ((Fjc.f k a1_0 t489).bind fun bt492 => (some (bt492.1, bt492.2))))))
theorem Fj.mono : ∀ a0 a1 a2 a3 k, LeO (Fj.f k a0 a1 a2 a3) (Fj.f (k + 1) a0 a1 a2 a3) := by
 intro a0 a1 a2 a3 k
 unfold Fj.f
 repeat' first | (with_reducible first | exact Fja.mono _ _ _ _ _ | exact Fjc.mono _ _ _ | exact Fk.mono _ _ _ _ _ | exact Fka.mono _ _ _ _ _ | exact lA | apply lI | refine lB ?_ fun _ => ?_) | exact lN _ | apply lI | refine lB ?_ fun _ => ?_
def Fj.T2 : Bool × List (List Nat × List Nat) := (true, [([], []), ([0], [0]), ([], []), ([], []), ([2, 3], [2, 3]), ([1, 4], [1, 4]), ([5, 4], [5]), ([6, 6, 0, 1, 2, 3, 4, 5, 6], [6])])
def Fj.B2 : List Nat := [0, 1, 0, 0, 12, 31, 63, 127]
theorem Fj.tab2 : rtab .any (opsOf Try.f90 2) = Fj.T2 := by kernel_rfl
theorem Fj.bits2 : waitsOk Fj.T2.2 Fj.B2 = true := by kernel_rfl
def Fj.T4 : Bool × List (List Nat × List Nat) := (true, [([], []), ([0], [0]), ([], []), ([], []), ([2, 3], [2, 3]), ([1, 4], [1, 4]), ([5, 4], [5]), ([6, 6, 0, 1, 2, 3, 4, 5, 6], [6])])
def Fj.B4 : List Nat := [0, 1, 0, 0, 12, 31, 63, 127]
theorem Fj.tab4 : rtab .any (opsOf Try.f90 4) = Fj.T4 := by kernel_rfl
theorem Fj.bits4 : waitsOk Fj.T4.2 Fj.B4 = true := by kernel_rfl
def Fj.T5 : Bool × List (List Nat × List Nat) := (true, [([], []), ([0], [0]), ([], []), ([], []), ([2, 3], [2, 3]), ([1, 4], [1, 4]), ([5, 4], [5]), ([6, 6, 0, 1, 2, 3, 4, 5, 6], [6])])
def Fj.B5 : List Nat := [0, 1, 0, 0, 12, 31, 63, 127]
theorem Fj.tab5 : rtab .any (opsOf Try.f90 5) = Fj.T5 := by kernel_rfl
theorem Fj.bits5 : waitsOk Fj.T5.2 Fj.B5 = true := by kernel_rfl
theorem Fj.calls (k : Nat) (J : Bool) (Z : Option Addr) (aa : Nat) (R : List Int) (O : Bool) (ab : Option Addr) (ac : Nat) (U : List Int) (r1 : Bool) (r2 : List Int) (w : World) (aH : Kd.C (Kd.int .u64) w Z R.length R) (aI : R.length ≤ aa) (aJ : Kd.C (Kd.int .u64) w ab U.length U) (aK : U.length ≤ ac) (h : Fj.f k J R O U = some (r1, r2)) :
  Calls Try.prog 90 #[.agg #[.bool J, .slice Z R.length aa], .agg #[.bool O, .slice ab U.length ac]] w fun e w' => ∃ bn : Value, e = .returned (.agg #[.bool r1, bn]) ∧ Kd.V (Kd.int .u64) 137 w' w.heap.size (fun k_ => (w.heap.size ≤ k_)) bn r2 ∧ Below w.heap.size w w' := by
 have hu127 := Try.underlying127; have ao := aM aH; have ap := aM aI; clear aH aI; have aq := aM aJ; have ar := aM aK; clear aJ aK; have HB := aM (Below.refl w.heap.size w); rw [Fj.f] at h; have H := h; clear h
 apply iB H <;> clear H <;> intro c3 H
 ·have bu : (J == O) = true := c3
  (try (have bv : decide (J = O) = true := by simpa using c3))
  (try (have bw : (J == O) = true := by simpa using c3))
  clear c3; apply bSx H; clear H; intro aw A4 H; replace H := Option.bind_eq_some_iff.mp H; obtain ⟨⟨ax, ay⟩, bp, H⟩ := H; replace H : (some (ax, ay)) = some (r1, r2) := H; have A5 := aM bp; clear bp; obtain ⟨rfl, rfl⟩ := pE2 H
  go_enter Try.func90, Try.ntmps90
  try go_wp2_with (first | ((with_reducible refine gate_dst (N := 2) rfl ?_); refine be_ (cs := #[.bool J, .slice Z R.length aa]) (t := 127) ?_; intro W hg w6 ah hb; have z := aM (ah); have aL := gE hg (bP0 HB); have E := gE hg (bP0 HB); replace HB := hS0 HB hb; clear hb ah hg) | ((with_reducible refine gate_dst (N := 3) rfl ?_); refine be_ (cs := #[.bool O, .slice ab U.length ac]) (t := 127) ?_; intro Y hg w7 ah hb; have A := aM (ah); have aN := gE hg (bP1 HB E); have I := gE hg (bP1 HB E); replace HB := hS1 HB E hb; have ad := nL hg z; have ae := nG hg z; replace z := kB z hb; clear hb ah hg) | ((with_reducible refine gate_dst (N := 4) rfl ?_); refine be_ (cs := #[.bool false, .slice none 0 0]) (t := 127) ?_; intro D hg w8 ah hb; have B := aM (ah); have aO := gE hg (bP2 HB E I); have L := gE hg (bP2 HB E I); replace HB := hS2 HB E I hb; have F := nL hg z; have P := nG hg z; replace z := kB z hb; have G := nL hg A; have Q := nG hg A; replace A := kB A hb; clear hb ah hg; have cl := ad.out; have cm := ae.out; have b2 := F.out; have b3 := P.out; obtain ⟨bx, bz, bA, bB⟩ := bG2 z; have b4 := G.out; have b5 := Q.out; obtain ⟨bC, bD, bE, bF⟩ := bG2 A))
  replace z := kD z; replace A := kD A; replace B := kD B; replace HB := aM (below_drew1 HB.out); refine start_ (n := 8) (S := fun w' => w'.cell? ⟨W, 0, none⟩ = some (.bool J) ∧ w'.cell? ⟨W, 1, none⟩ = some (.slice Z R.length aa) ∧ w'.cell? ⟨Y, 0, none⟩ = some (.bool O) ∧ w'.cell? ⟨Y, 1, none⟩ = some (.slice ab U.length ac)) (ds := []) (bl 8 0) (by kernel_rfl) rfl rfl ⟨(blk_cell z.out 0).trans rfl, (blk_cell z.out 1).trans rfl, (blk_cell A.out 0).trans rfl, (blk_cell A.out 1).trans rfl⟩ (fun ag => ?_); refine with_tabW Fj.tab2 Fj.bits2 (fun al am => ?_); generalize w8.drew = cv at z A B HB ag ⊢; refine pu_ 0 10 (bl 8 1) al ?_; refine tk4_ 1 11 (bl 8 3) al am ag ?_; refine tk4_ 2 12 (bl 8 7) al am ag ?_; refine tk4_ 3 13 (bl 8 15) al am ag ?_; refine one_ (i := 4) (N := some 14) (bl 8 31) rfl rfl (one_of al.out (by kernel_rfl)) (by decide) (fun K hK => ?_); refine gS_ Try.func104 #[.agg #[.bool J, .slice Z R.length aa], .agg #[.bool O, .slice ab U.length ac]] ?_
  with_reducible refine (Fka.calls k J _ _ R O _ _ U aw _ ?s1 ?s2 ?s3 ?s4 A4.out).mono ?_
  (case s1 => exact cB ao HB)
  (case s2 => exact ap.out)
  (case s3 => exact cB aq HB)
  (case s4 => exact ar.out)
  rintro e cw ⟨cn, rfl, af, hb⟩; refine ⟨_, rfl, ?_⟩; have ai := rW (Kd.R_newM (M := fun k_ => (w.heap.size ≤ k_)) af (below_size (bP3 HB E I L)) (fun k_ h_ => h_)) (bP3 HB E I L); replace z := kB z hb; replace A := kB A hb; replace B := kB B hb; replace HB := hS3 HB E I L hb
  obtain ⟨aU, aV, aW⟩ := sL ai
  (first | subst aW | obtain ⟨rfl, rfl⟩ := iS aW)
  refine hK.out _ _ ⟨(blk_cell z.out 0).trans rfl, (blk_cell z.out 1).trans rfl, (blk_cell A.out 0).trans rfl, (blk_cell A.out 1).trans rfl⟩ (fun ag => ?_); clear hK K; refine nm_ 14 ?_; refine pu_ 5 15 (bl 8 63) al ?_; refine one_ (i := 6) (N := some 16) (bl 8 127) rfl rfl (one_of al.out (by kernel_rfl)) (by decide) (fun K hK => ?_); refine gS_ Try.func103 #[.agg #[.bool J, .slice aU aw.length aV]] ?_
  with_reducible refine (Fjc.calls k J (fun k_ => some k_ = (.slice aU aw.length aV : Value).ownBlock) _ _ aw ax ay _ ?s1 A5.out).mono ?_
  (case s1 => exact Kd.R_V (Kd.R_tight rfl (Kd.R_types (Kd.R_types (Kd.R_types (ai.out) z.out (by decide)) A.out (by decide)) B.out (by decide))))
  rintro e bq ⟨co, rfl, af, hb⟩; refine ⟨_, rfl, ?_⟩; have aP := aM (Kd.V_lower (Kd.V_mono (ok' := fun k_ => (w.heap.size ≤ k_) ∧ k_ ≠ W ∧ k_ ≠ Y ∧ k_ ≠ D) af (fun k_ hk_ => ⟨Or.elim hk_ (fun hs_ => ((Kd.R_types (Kd.R_types (Kd.R_types (ai.out) z.out (by decide)) A.out (by decide)) B.out (by decide)).1 k_ hs_.symm).1.1.1.1) (fun hn_ => (Nat.le_trans (below_size (bP3 HB E I L)) hn_)), Or.elim hk_ (fun hs_ => ((Kd.R_types (Kd.R_types (Kd.R_types (ai.out) z.out (by decide)) A.out (by decide)) B.out (by decide)).1 k_ hs_.symm).1.1.2) (fun hn_ => (Kd.freshB (g := W) (o := .cells #[.bool J, .slice Z R.length aa] 127 (0, 0)) (kO z.out) k_ hn_)), Or.elim hk_ (fun hs_ => ((Kd.R_types (Kd.R_types (Kd.R_types (ai.out) z.out (by decide)) A.out (by decide)) B.out (by decide)).1 k_ hs_.symm).1.2) (fun hn_ => (Kd.freshB (g := Y) (o := .cells #[.bool O, .slice ab U.length ac] 127 (0, 0)) (kO A.out) k_ hn_)), Or.elim hk_ (fun hs_ => ((Kd.R_types (Kd.R_types (Kd.R_types (ai.out) z.out (by decide)) A.out (by decide)) B.out (by decide)).1 k_ hs_.symm).2) (fun hn_ => (Kd.freshB (g := D) (o := .cells #[.bool false, .slice none 0 0] 127 (0, 0)) (kO B.out) k_ hn_))⟩)) (below_size (bP3 HB E I L))); replace ai := rB ai hb; replace z := kB z hb; replace A := kB A hb; replace B := kB B hb; replace HB := hS3 HB E I L hb
  obtain ⟨aX, aY, aZ⟩ := Kd.V_slice aP.out
  (first | subst aZ | obtain ⟨rfl, rfl⟩ := iS aZ)
  refine hK.out _ _ ⟨(blk_cell z.out 0).trans rfl, (blk_cell z.out 1).trans rfl, (blk_cell A.out 0).trans rfl, (blk_cell A.out 1).trans rfl⟩ (fun ag => ?_); clear hK K; refine nm_ 16 ?_; refine one_ (i := 7) (N := none) (bl 8 255) rfl rfl (one_of al.out (by kernel_rfl)) (by decide) (fun K hK => ?_); have hs18 : bq.cell? ⟨D, 0, none⟩ = some (.bool false) := (blk_cell B.out 0).trans rfl; have hfs18 := blk_frozen B.out 0; have hns18_0 := F.out; have hns18_1 := G.out; have hms18_0 := P.out; have hms18_1 := Q.out; have hs20 : bq.cell? ⟨D, 1, none⟩ = some (.slice none 0 0) := (blk_cell B.out 1).trans rfl; have hfs20 := blk_frozen B.out 1; have hns20_0 := F.out; have hns20_1 := G.out; have hms20_0 := P.out; have hms20_1 := Q.out; refine skip_ (w1 := ?_) (by rfl) rfl ?_ ?_; rotate_left
  ·go_simp
   rfl
  refine hK.out _ _ ⟨((cell_far (p := ⟨D, _, none⟩) F.out _).trans (((cell_far (p := ⟨D, _, none⟩) F.out _).trans (ag.1)))), ((cell_far (p := ⟨D, _, none⟩) F.out _).trans (((cell_far (p := ⟨D, _, none⟩) F.out _).trans (ag.2.1)))), ((cell_far (p := ⟨D, _, none⟩) G.out _).trans (((cell_far (p := ⟨D, _, none⟩) G.out _).trans (ag.2.2.1)))), ((cell_far (p := ⟨D, _, none⟩) G.out _).trans (((cell_far (p := ⟨D, _, none⟩) G.out _).trans (ag.2.2.2))))⟩ (fun ag => ?_); clear hK K; refine done_ (done_of al.out (by kernel_rfl)) ?_
  try go_wp2
  refine bodyPost_ret (results_cell_row rfl _ _ D 127 #[.bool ax, .slice aX ay.length aY] (0, 0) _ rfl (by (with_reducible repeat (first | refine blk_drewN ?_ _ | refine blk_drew ?_ | refine blk_alloc ?_ _)); exact blk_put (blk_put B.out 0 _ rfl) 1 _ rfl) Try.underlying127 rfl (by kernel_rfl)) rfl ?_; exact ⟨_, eW, by (with_reducible repeat (first | apply Kd.V_alloc | apply Kd.V_drewN | apply Kd.V_drew)); exact Kd.V_mono (Kd.V_far (p := ⟨D, 1, none⟩) (Kd.V_far (p := ⟨D, 0, none⟩) (Kd.V_mono aP.out (fun k_ hk => (⟨hk, hk.2.2.2⟩ : _ ∧ k_ ≠ D))) (fun _ hk => hk.2) (.bool ax)) (fun _ hk => hk.2) (.slice aX ay.length aY)) (fun _ hk => hk.1.1), bS3 HB.out E.out I.out L.out⟩
 ·have bu : (J == O) = false := by simpa using c3
  (try (have bv : decide (J = O) = false := by simpa using c3))
  (try (have bw : (J == O) = false := by simpa using c3))
  (try (have cp : ¬ (J = O) := by simpa using c3))
  clear c3; apply bSx H; clear H; intro aG br H
  apply iB H <;> clear H <;> intro av H
  ·have bm := dT av; clear av; apply bSx H; clear H; intro az bW H; replace H := Option.bind_eq_some_iff.mp H; obtain ⟨⟨aA, aB⟩, a6, H⟩ := H; replace H : (some (aA, aB)) = some (r1, r2) := H; have bX := aM a6; clear a6; obtain ⟨rfl, rfl⟩ := pE2 H
   go_enter Try.func90, Try.ntmps90
   try go_wp2_with (first | ((with_reducible refine gate_dst (N := 2) rfl ?_); refine be_ (cs := #[.bool J, .slice Z R.length aa]) (t := 127) ?_; intro W hg cx ah hb; have z := aM (ah); have aL := gE hg (bP0 HB); have E := gE hg (bP0 HB); replace HB := hS0 HB hb; clear hb ah hg) | ((with_reducible refine gate_dst (N := 3) rfl ?_); refine be_ (cs := #[.bool O, .slice ab U.length ac]) (t := 127) ?_; intro Y hg cy ah hb; have A := aM (ah); have aN := gE hg (bP1 HB E); have I := gE hg (bP1 HB E); replace HB := hS1 HB E hb; have ad := nL hg z; have ae := nG hg z; replace z := kB z hb; clear hb ah hg) | ((with_reducible refine gate_dst (N := 4) rfl ?_); refine be_ (cs := #[.bool false, .slice none 0 0]) (t := 127) ?_; intro D hg cz ah hb; have B := aM (ah); have aO := gE hg (bP2 HB E I); have L := gE hg (bP2 HB E I); replace HB := hS2 HB E I hb; have F := nL hg z; have P := nG hg z; replace z := kB z hb; have G := nL hg A; have Q := nG hg A; replace A := kB A hb; clear hb ah hg; have b6 := ad.out; have b7 := ae.out; have b8 := F.out; have b9 := P.out; obtain ⟨bG, bH, bI, bJ⟩ := bG2 z; have ca := G.out; have cb := Q.out; obtain ⟨bK, bL, bM, bN⟩ := bG2 A) | ((with_reducible refine gate_callee (f := 105) rfl ?_); refine gL_ (some 19) Try.func105 #[.agg #[.bool J, .slice Z R.length aa], .agg #[.bool O, .slice ab U.length ac]] ?_; (with_reducible refine (Fja.calls k J _ _ R O _ _ U aG _ ?s1 ap.out ?s3 ar.out br.out).mono ?_); (case s1 => exact cB ao HB); (case s3 => exact cB aq HB); rintro e bY ⟨rfl, hb⟩; refine ⟨_, rfl, ?_⟩; replace z := kB z hb; replace A := kB A hb; replace B := kB B hb; replace HB := hS3 HB E I L hb))
   replace z := kD z; replace A := kD A; replace B := kD B; replace HB := aM (below_drew1 HB.out); refine start_ (n := 8) (S := fun w' => w'.cell? ⟨W, 0, none⟩ = some (.bool J) ∧ w'.cell? ⟨W, 1, none⟩ = some (.slice Z R.length aa) ∧ w'.cell? ⟨Y, 0, none⟩ = some (.bool O) ∧ w'.cell? ⟨Y, 1, none⟩ = some (.slice ab U.length ac)) (ds := []) (bl 8 0) (by kernel_rfl) rfl rfl ⟨(blk_cell z.out 0).trans rfl, (blk_cell z.out 1).trans rfl, (blk_cell A.out 0).trans rfl, (blk_cell A.out 1).trans rfl⟩ (fun ag => ?_); refine with_tabW Fj.tab4 Fj.bits4 (fun al am => ?_); generalize bY.drew = cA at z A B HB ag ⊢; refine pu_ 0 21 (bl 8 1) al ?_; refine tk4_ 1 22 (bl 8 3) al am ag ?_; refine tk4_ 2 23 (bl 8 7) al am ag ?_; refine tk4_ 3 24 (bl 8 15) al am ag ?_; refine one_ (i := 4) (N := some 25) (bl 8 31) rfl rfl (one_of al.out (by kernel_rfl)) (by decide) (fun K hK => ?_); refine gS_ Try.func106 #[.agg #[.bool J, .slice Z R.length aa], .agg #[.bool O, .slice ab U.length ac]] ?_
   with_reducible refine (Fk.calls k J _ _ R O _ _ U az _ ?s1 ?s2 ?s3 ?s4 bW.out).mono ?_
   (case s1 => exact cB ao HB)
   (case s2 => exact ap.out)
   (case s3 => exact cB aq HB)
   (case s4 => exact ar.out)
   rintro e cC ⟨cq, rfl, af, hb⟩; refine ⟨_, rfl, ?_⟩; have aj := rW (Kd.R_newM (M := fun k_ => (w.heap.size ≤ k_)) af (below_size (bP3 HB E I L)) (fun k_ h_ => h_)) (bP3 HB E I L); replace z := kB z hb; replace A := kB A hb; replace B := kB B hb; replace HB := hS3 HB E I L hb
   obtain ⟨a7, a8, a9⟩ := sL aj
   (first | subst a9 | obtain ⟨rfl, rfl⟩ := iS a9)
   refine hK.out _ _ ⟨(blk_cell z.out 0).trans rfl, (blk_cell z.out 1).trans rfl, (blk_cell A.out 0).trans rfl, (blk_cell A.out 1).trans rfl⟩ (fun ag => ?_); clear hK K; refine nm_ 25 ?_; refine pu_ 5 26 (bl 8 63) al ?_; refine one_ (i := 6) (N := some 27) (bl 8 127) rfl rfl (one_of al.out (by kernel_rfl)) (by decide) (fun K hK => ?_); refine gS_ Try.func103 #[.agg #[.bool J, .slice a7 az.length a8]] ?_
   with_reducible refine (Fjc.calls k J (fun k_ => some k_ = (.slice a7 az.length a8 : Value).ownBlock) _ _ az aA aB _ ?s1 bX.out).mono ?_
   (case s1 => exact Kd.R_V (Kd.R_tight rfl (Kd.R_types (Kd.R_types (Kd.R_types (aj.out) z.out (by decide)) A.out (by decide)) B.out (by decide))))
   rintro e bs ⟨cr, rfl, af, hb⟩; refine ⟨_, rfl, ?_⟩; have aQ := aM (Kd.V_lower (Kd.V_mono (ok' := fun k_ => (w.heap.size ≤ k_) ∧ k_ ≠ W ∧ k_ ≠ Y ∧ k_ ≠ D) af (fun k_ hk_ => ⟨Or.elim hk_ (fun hs_ => ((Kd.R_types (Kd.R_types (Kd.R_types (aj.out) z.out (by decide)) A.out (by decide)) B.out (by decide)).1 k_ hs_.symm).1.1.1.1) (fun hn_ => (Nat.le_trans (below_size (bP3 HB E I L)) hn_)), Or.elim hk_ (fun hs_ => ((Kd.R_types (Kd.R_types (Kd.R_types (aj.out) z.out (by decide)) A.out (by decide)) B.out (by decide)).1 k_ hs_.symm).1.1.2) (fun hn_ => (Kd.freshB (g := W) (o := .cells #[.bool J, .slice Z R.length aa] 127 (0, 0)) (kO z.out) k_ hn_)), Or.elim hk_ (fun hs_ => ((Kd.R_types (Kd.R_types (Kd.R_types (aj.out) z.out (by decide)) A.out (by decide)) B.out (by decide)).1 k_ hs_.symm).1.2) (fun hn_ => (Kd.freshB (g := Y) (o := .cells #[.bool O, .slice ab U.length ac] 127 (0, 0)) (kO A.out) k_ hn_)), Or.elim hk_ (fun hs_ => ((Kd.R_types (Kd.R_types (Kd.R_types (aj.out) z.out (by decide)) A.out (by decide)) B.out (by decide)).1 k_ hs_.symm).2) (fun hn_ => (Kd.freshB (g := D) (o := .cells #[.bool false, .slice none 0 0] 127 (0, 0)) (kO B.out) k_ hn_))⟩)) (below_size (bP3 HB E I L))); replace aj := rB aj hb; replace z := kB z hb; replace A := kB A hb; replace B := kB B hb; replace HB := hS3 HB E I L hb
   obtain ⟨ba, bb, bc⟩ := Kd.V_slice aQ.out
   (first | subst bc | obtain ⟨rfl, rfl⟩ := iS bc)
   refine hK.out _ _ ⟨(blk_cell z.out 0).trans rfl, (blk_cell z.out 1).trans rfl, (blk_cell A.out 0).trans rfl, (blk_cell A.out 1).trans rfl⟩ (fun ag => ?_); clear hK K; refine nm_ 27 ?_; refine one_ (i := 7) (N := none) (bl 8 255) rfl rfl (one_of al.out (by kernel_rfl)) (by decide) (fun K hK => ?_); have hs38 : bs.cell? ⟨D, 0, none⟩ = some (.bool false) := (blk_cell B.out 0).trans rfl; have hfs38 := blk_frozen B.out 0; have hns38_0 := F.out; have hns38_1 := G.out; have hms38_0 := P.out; have hms38_1 := Q.out; have hs40 : bs.cell? ⟨D, 1, none⟩ = some (.slice none 0 0) := (blk_cell B.out 1).trans rfl; have hfs40 := blk_frozen B.out 1; have hns40_0 := F.out; have hns40_1 := G.out; have hms40_0 := P.out; have hms40_1 := Q.out; refine skip_ (w1 := ?_) (by rfl) rfl ?_ ?_; rotate_left
   ·go_simp
    rfl
   refine hK.out _ _ ⟨((cell_far (p := ⟨D, _, none⟩) F.out _).trans (((cell_far (p := ⟨D, _, none⟩) F.out _).trans (ag.1)))), ((cell_far (p := ⟨D, _, none⟩) F.out _).trans (((cell_far (p := ⟨D, _, none⟩) F.out _).trans (ag.2.1)))), ((cell_far (p := ⟨D, _, none⟩) G.out _).trans (((cell_far (p := ⟨D, _, none⟩) G.out _).trans (ag.2.2.1)))), ((cell_far (p := ⟨D, _, none⟩) G.out _).trans (((cell_far (p := ⟨D, _, none⟩) G.out _).trans (ag.2.2.2))))⟩ (fun ag => ?_); clear hK K; refine done_ (done_of al.out (by kernel_rfl)) ?_
   try go_wp2
   refine bodyPost_ret (results_cell_row rfl _ _ D 127 #[.bool aA, .slice ba aB.length bb] (0, 0) _ rfl (by (with_reducible repeat (first | refine blk_drewN ?_ _ | refine blk_drew ?_ | refine blk_alloc ?_ _)); exact blk_put (blk_put B.out 0 _ rfl) 1 _ rfl) Try.underlying127 rfl (by kernel_rfl)) rfl ?_; exact ⟨_, eW, by (with_reducible repeat (first | apply Kd.V_alloc | apply Kd.V_drewN | apply Kd.V_drew)); exact Kd.V_mono (Kd.V_far (p := ⟨D, 1, none⟩) (Kd.V_far (p := ⟨D, 0, none⟩) (Kd.V_mono aQ.out (fun k_ hk => (⟨hk, hk.2.2.2⟩ : _ ∧ k_ ≠ D))) (fun _ hk => hk.2) (.bool aA)) (fun _ hk => hk.2) (.slice ba aB.length bb)) (fun _ hk => hk.1.1), bS3 HB.out E.out I.out L.out⟩
  ·have bm := decide_eq_false av; clear av; apply bSx H; clear H; intro aC bZ H; replace H := Option.bind_eq_some_iff.mp H; obtain ⟨⟨aD, aE⟩, be, H⟩ := H; replace H : (some (aD, aE)) = some (r1, r2) := H; have b0 := aM be; clear be; obtain ⟨rfl, rfl⟩ := pE2 H
   go_enter Try.func90, Try.ntmps90
   try go_wp2_with (first | ((with_reducible refine gate_dst (N := 2) rfl ?_); refine be_ (cs := #[.bool J, .slice Z R.length aa]) (t := 127) ?_; intro W hg cD ah hb; have z := aM (ah); have aL := gE hg (bP0 HB); have E := gE hg (bP0 HB); replace HB := hS0 HB hb; clear hb ah hg) | ((with_reducible refine gate_dst (N := 3) rfl ?_); refine be_ (cs := #[.bool O, .slice ab U.length ac]) (t := 127) ?_; intro Y hg cE ah hb; have A := aM (ah); have aN := gE hg (bP1 HB E); have I := gE hg (bP1 HB E); replace HB := hS1 HB E hb; have ad := nL hg z; have ae := nG hg z; replace z := kB z hb; clear hb ah hg) | ((with_reducible refine gate_dst (N := 4) rfl ?_); refine be_ (cs := #[.bool false, .slice none 0 0]) (t := 127) ?_; intro D hg cF ah hb; have B := aM (ah); have aO := gE hg (bP2 HB E I); have L := gE hg (bP2 HB E I); replace HB := hS2 HB E I hb; have F := nL hg z; have P := nG hg z; replace z := kB z hb; have G := nL hg A; have Q := nG hg A; replace A := kB A hb; clear hb ah hg; have cc := ad.out; have cd := ae.out; have ce := F.out; have cf := P.out; obtain ⟨bO, bP, bQ, bR⟩ := bG2 z; have cg := G.out; have ch := Q.out; obtain ⟨bS, bT, bU, bV⟩ := bG2 A) | ((with_reducible refine gate_callee (f := 105) rfl ?_); refine gL_ (some 19) Try.func105 #[.agg #[.bool J, .slice Z R.length aa], .agg #[.bool O, .slice ab U.length ac]] ?_; (with_reducible refine (Fja.calls k J _ _ R O _ _ U aG _ ?s1 ap.out ?s3 ar.out br.out).mono ?_); (case s1 => exact cB ao HB); (case s3 => exact cB aq HB); rintro e b1 ⟨rfl, hb⟩; refine ⟨_, rfl, ?_⟩; replace z := kB z hb; replace A := kB A hb; replace B := kB B hb; replace HB := hS3 HB E I L hb))
   replace z := kD z; replace A := kD A; replace B := kD B; replace HB := aM (below_drew1 HB.out); refine start_ (n := 8) (S := fun w' => w'.cell? ⟨Y, 0, none⟩ = some (.bool O) ∧ w'.cell? ⟨Y, 1, none⟩ = some (.slice ab U.length ac) ∧ w'.cell? ⟨W, 0, none⟩ = some (.bool J) ∧ w'.cell? ⟨W, 1, none⟩ = some (.slice Z R.length aa)) (ds := []) (bl 8 0) (by kernel_rfl) rfl rfl ⟨(blk_cell A.out 0).trans rfl, (blk_cell A.out 1).trans rfl, (blk_cell z.out 0).trans rfl, (blk_cell z.out 1).trans rfl⟩ (fun ag => ?_); refine with_tabW Fj.tab5 Fj.bits5 (fun al am => ?_); generalize b1.drew = cG at z A B HB ag ⊢; refine pu_ 0 28 (bl 8 1) al ?_; refine tk4_ 1 29 (bl 8 3) al am ag ?_; refine tk4_ 2 30 (bl 8 7) al am ag ?_; refine tk4_ 3 31 (bl 8 15) al am ag ?_; refine one_ (i := 4) (N := some 32) (bl 8 31) rfl rfl (one_of al.out (by kernel_rfl)) (by decide) (fun K hK => ?_); refine gS_ Try.func106 #[.agg #[.bool O, .slice ab U.length ac], .agg #[.bool J, .slice Z R.length aa]] ?_
   with_reducible refine (Fk.calls k O _ _ U J _ _ R aC _ ?s1 ?s2 ?s3 ?s4 bZ.out).mono ?_
   (case s1 => exact cB aq HB)
   (case s2 => exact ar.out)
   (case s3 => exact cB ao HB)
   (case s4 => exact ap.out)
   rintro e cH ⟨ct, rfl, af, hb⟩; refine ⟨_, rfl, ?_⟩; have ak := rW (Kd.R_newM (M := fun k_ => (w.heap.size ≤ k_)) af (below_size (bP3 HB E I L)) (fun k_ h_ => h_)) (bP3 HB E I L); replace z := kB z hb; replace A := kB A hb; replace B := kB B hb; replace HB := hS3 HB E I L hb
   obtain ⟨bf, bg, bh⟩ := sL ak
   (first | subst bh | obtain ⟨rfl, rfl⟩ := iS bh)
   refine hK.out _ _ ⟨(blk_cell A.out 0).trans rfl, (blk_cell A.out 1).trans rfl, (blk_cell z.out 0).trans rfl, (blk_cell z.out 1).trans rfl⟩ (fun ag => ?_); clear hK K; refine nm_ 32 ?_; refine pu_ 5 33 (bl 8 63) al ?_; refine one_ (i := 6) (N := some 34) (bl 8 127) rfl rfl (one_of al.out (by kernel_rfl)) (by decide) (fun K hK => ?_); refine gS_ Try.func103 #[.agg #[.bool O, .slice bf aC.length bg]] ?_
   with_reducible refine (Fjc.calls k O (fun k_ => some k_ = (.slice bf aC.length bg : Value).ownBlock) _ _ aC aD aE _ ?s1 b0.out).mono ?_
   (case s1 => exact Kd.R_V (Kd.R_tight rfl (Kd.R_types (Kd.R_types (Kd.R_types (ak.out) z.out (by decide)) A.out (by decide)) B.out (by decide))))
   rintro e bt ⟨cu, rfl, af, hb⟩; refine ⟨_, rfl, ?_⟩; have aR := aM (Kd.V_lower (Kd.V_mono (ok' := fun k_ => (w.heap.size ≤ k_) ∧ k_ ≠ W ∧ k_ ≠ Y ∧ k_ ≠ D) af (fun k_ hk_ => ⟨Or.elim hk_ (fun hs_ => ((Kd.R_types (Kd.R_types (Kd.R_types (ak.out) z.out (by decide)) A.out (by decide)) B.out (by decide)).1 k_ hs_.symm).1.1.1.1) (fun hn_ => (Nat.le_trans (below_size (bP3 HB E I L)) hn_)), Or.elim hk_ (fun hs_ => ((Kd.R_types (Kd.R_types (Kd.R_types (ak.out) z.out (by decide)) A.out (by decide)) B.out (by decide)).1 k_ hs_.symm).1.1.2) (fun hn_ => (Kd.freshB (g := W) (o := .cells #[.bool J, .slice Z R.length aa] 127 (0, 0)) (kO z.out) k_ hn_)), Or.elim hk_ (fun hs_ => ((Kd.R_types (Kd.R_types (Kd.R_types (ak.out) z.out (by decide)) A.out (by decide)) B.out (by decide)).1 k_ hs_.symm).1.2) (fun hn_ => (Kd.freshB (g := Y) (o := .cells #[.bool O, .slice ab U.length ac] 127 (0, 0)) (kO A.out) k_ hn_)), Or.elim hk_ (fun hs_ => ((Kd.R_types (Kd.R_types (Kd.R_types (ak.out) z.out (by decide)) A.out (by decide)) B.out (by decide)).1 k_ hs_.symm).2) (fun hn_ => (Kd.freshB (g := D) (o := .cells #[.bool false, .slice none 0 0] 127 (0, 0)) (kO B.out) k_ hn_))⟩)) (below_size (bP3 HB E I L))); replace ak := rB ak hb; replace z := kB z hb; replace A := kB A hb; replace B := kB B hb; replace HB := hS3 HB E I L hb
   obtain ⟨bi, bj, bk⟩ := Kd.V_slice aR.out
   (first | subst bk | obtain ⟨rfl, rfl⟩ := iS bk)
   refine hK.out _ _ ⟨(blk_cell A.out 0).trans rfl, (blk_cell A.out 1).trans rfl, (blk_cell z.out 0).trans rfl, (blk_cell z.out 1).trans rfl⟩ (fun ag => ?_); clear hK K; refine nm_ 34 ?_; refine one_ (i := 7) (N := none) (bl 8 255) rfl rfl (one_of al.out (by kernel_rfl)) (by decide) (fun K hK => ?_); have hs56 : bt.cell? ⟨D, 0, none⟩ = some (.bool false) := (blk_cell B.out 0).trans rfl; have hfs56 := blk_frozen B.out 0; have hns56_0 := F.out; have hns56_1 := G.out; have hms56_0 := P.out; have hms56_1 := Q.out; have hs58 : bt.cell? ⟨D, 1, none⟩ = some (.slice none 0 0) := (blk_cell B.out 1).trans rfl; have hfs58 := blk_frozen B.out 1; have hns58_0 := F.out; have hns58_1 := G.out; have hms58_0 := P.out; have hms58_1 := Q.out; refine skip_ (w1 := ?_) (by rfl) rfl ?_ ?_; rotate_left
   ·go_simp
    rfl
   refine hK.out _ _ ⟨((cell_far (p := ⟨D, _, none⟩) G.out _).trans (((cell_far (p := ⟨D, _, none⟩) G.out _).trans (ag.1)))), ((cell_far (p := ⟨D, _, none⟩) G.out _).trans (((cell_far (p := ⟨D, _, none⟩) G.out _).trans (ag.2.1)))), ((cell_far (p := ⟨D, _, none⟩) F.out _).trans (((cell_far (p := ⟨D, _, none⟩) F.out _).trans (ag.2.2.1)))), ((cell_far (p := ⟨D, _, none⟩) F.out _).trans (((cell_far (p := ⟨D, _, none⟩) F.out _).trans (ag.2.2.2))))⟩ (fun ag => ?_); clear hK K; refine done_ (done_of al.out (by kernel_rfl)) ?_
   try go_wp2
   refine bodyPost_ret (results_cell_row rfl _ _ D 127 #[.bool aD, .slice bi aE.length bj] (0, 0) _ rfl (by (with_reducible repeat (first | refine blk_drewN ?_ _ | refine blk_drew ?_ | refine blk_alloc ?_ _)); exact blk_put (blk_put B.out 0 _ rfl) 1 _ rfl) Try.underlying127 rfl (by kernel_rfl)) rfl ?_; exact ⟨_, eW, by (with_reducible repeat (first | apply Kd.V_alloc | apply Kd.V_drewN | apply Kd.V_drew)); exact Kd.V_mono (Kd.V_far (p := ⟨D, 1, none⟩) (Kd.V_far (p := ⟨D, 0, none⟩) (Kd.V_mono aR.out (fun k_ hk => (⟨hk, hk.2.2.2⟩ : _ ∧ k_ ≠ D))) (fun _ hk => hk.2) (.bool aD)) (fun _ hk => hk.2) (.slice bi aE.length bj)) (fun _ hk => hk.1.1), bS3 HB.out E.out I.out L.out⟩
def Fib.f (k : Nat) (a0_0 : Bool) (l0_1 : List Int) : Option (Bool × List Int) := (Fjc.f k (!a0_0) l0_1).bind fun bt498 => (some (bt498.1, bt498.2))
theorem Fib.mono : ∀ a0 a1 k, LeO (Fib.f k a0 a1) (Fib.f (k + 1) a0 a1) := by
 intro a0 a1 k
 unfold Fib.f
 repeat' first | (with_reducible first | exact Fjc.mono _ _ _ | exact lA | apply lI | refine lB ?_ fun _ => ?_) | exact lN _ | apply lI | refine lB ?_ fun _ => ?_
theorem Fib.calls (k : Nat) (G : Bool) (P0_1_ : Nat → Prop) (I : Option Addr) (J : Nat) (B : List Int) (r1 : Bool) (r2 : List Int) (w : World) (hs0_1 : Kd.V (Kd.int .u64) 137 w w.heap.size (fun k_ => P0_1_ k_) (.slice I B.length J) B) (h : Fib.f k G B = some (r1, r2)) :
  Calls Try.prog 102 #[.agg #[.bool G, .slice I B.length J]] w fun e w' => ∃ Z : Value, e = .returned (.agg #[.bool r1, Z]) ∧ Kd.V (Kd.int .u64) 137 w' w.heap.size (fun k_ => (P0_1_ k_ ∨ w.heap.size ≤ k_)) Z r2 ∧ Below w.heap.size w w' := by
 have hu127 := Try.underlying127; have D := aM (show Kd.V (Kd.int .u64) 137 w w.heap.size (fun k_ => (P0_1_ k_ ∨ w.heap.size ≤ k_)) (.slice I B.length J) B from Kd.V_mono hs0_1 (fun k_ hk => .inl hk)); have HB := aM (Below.refl w.heap.size w); rw [Fib.f] at h; have H := h; clear h; replace H := Option.bind_eq_some_iff.mp H; obtain ⟨⟨P, Q⟩, aa, H⟩ := H; replace H : (some (P, Q)) = some (r1, r2) := H; have A2 := aM aa; clear aa; obtain ⟨rfl, rfl⟩ := pE2 H
 go_enter Try.func102, Try.ntmps102
 go_wp2_with (first | ((with_reducible refine gate_dst (N := 1) rfl ?_); refine be_ (cs := #[.bool G, .slice I B.length J]) (t := 127) ?_; intro L hg w3 aS hb; replace D := aM (Kd.V_below (Kd.V_elderB (vO D.out) L (Nat.le_of_eq hg.symm)) hb); have z := aM (aS); have ap := gE hg (bP0 HB); have E := gE hg (bP0 HB); replace HB := hS0 HB hb; clear hb aS hg) | ((with_reducible refine gate_dst (N := 2) rfl ?_); refine be_ (cs := #[.bool false, .slice none 0 0]) (t := 127) ?_; intro A hg w4 aS hb; replace D := aM (Kd.V_below (Kd.V_elderB (vO D.out) A (Nat.le_of_eq hg.symm)) hb); have F := aM (aS); have aq := gE hg (bP1 HB E); have O := gE hg (bP1 HB E); replace HB := hS1 HB E hb; have R := nL hg z; have U := nG hg z; replace z := kB z hb; clear hb aS hg; have au := R.out; have av := U.out; obtain ⟨ag, ah, ai, aj⟩ := bG2 z) | ((with_reducible refine gate_callee (f := 103) rfl ?_); refine gL_ (some 9) Try.func103 #[.agg #[.bool (!G), .slice I B.length J]] ?_; (with_reducible refine (Fjc.calls k (!G) (fun k_ => (((P0_1_ k_ ∨ w.heap.size ≤ k_) ∧ k_ ≠ L) ∧ k_ ≠ A)) _ _ B P Q _ ?s1 A2.out).mono ?_); (case s1 => exact D.out); rintro e w7 ⟨aw, rfl, ab, hb⟩; refine ⟨_, rfl, ?_⟩; replace D := aM (Kd.V_below (vO D.out) hb); have Y := aM (Kd.V_lower (Kd.V_mono (ok' := fun k_ => (P0_1_ k_ ∨ w.heap.size ≤ k_) ∧ k_ ≠ L ∧ k_ ≠ A) ab (fun k_ hk_ => ⟨Or.elim hk_ (fun hs_ => hs_.1.1) (fun hn_ => (.inr (Nat.le_trans (below_size (bP2 HB E O)) hn_))), Or.elim hk_ (fun hs_ => hs_.1.2) (fun hn_ => (Kd.freshB (g := L) (o := .cells #[.bool G, .slice I B.length J] 127 (0, 0)) (kO z.out) k_ hn_)), Or.elim hk_ (fun hs_ => hs_.2) (fun hn_ => (Kd.freshB (g := A) (o := .cells #[.bool false, .slice none 0 0] 127 (0, 0)) (kO F.out) k_ hn_))⟩)) (below_size (bP2 HB E O))); replace z := kB z hb; replace F := kB F hb; replace HB := hS2 HB E O hb; obtain ⟨ak, al, am, an⟩ := bG2 F; obtain ⟨ac, ad, ao⟩ := Kd.V_slice Y.out; subst ao))
 refine bodyPost_ret (results_cell_row rfl _ _ A 127 #[.bool P, .slice ac Q.length ad] (0, 0) _ rfl (by (with_reducible repeat (first | refine blk_drewN ?_ _ | refine blk_drew ?_ | refine blk_alloc ?_ _)); exact blk_put (blk_put F.out 0 _ rfl) 1 _ rfl) Try.underlying127 rfl (by kernel_rfl)) rfl ?_; exact ⟨_, eW, by (with_reducible repeat (first | apply Kd.V_alloc | apply Kd.V_drewN | apply Kd.V_drew)); exact Kd.V_mono (Kd.V_far (p := ⟨A, 1, none⟩) (Kd.V_far (p := ⟨A, 0, none⟩) (Kd.V_mono Y.out (fun k_ hk => (⟨hk, hk.2.2⟩ : _ ∧ k_ ≠ A))) (fun _ hk => hk.2) (.bool P)) (fun _ hk => hk.2) (.slice ac Q.length ad)) (fun _ hk => hk.1.1), bS2 HB.out E.out O.out⟩
def Fia.f (k : Nat) (a0_0 : Bool) (l0_1 : List Int) (a1_0 : Bool) (l1_1 : List Int) : Option (Bool) := (Fib.f k a1_0 l1_1).bind fun bt504 => ((Fj.f k a0_0 l0_1 bt504.1 bt504.2).bind fun bt508 => (some bt508.1))
theorem Fia.mono : ∀ a0 a1 a2 a3 k, LeO (Fia.f k a0 a1 a2 a3) (Fia.f (k + 1) a0 a1 a2 a3) := by
 intro a0 a1 a2 a3 k
 unfold Fia.f
 repeat' first | (with_reducible first | exact Fib.mono _ _ _ | exact Fj.mono _ _ _ _ _ | exact lA | apply lI | refine lB ?_ fun _ => ?_) | exact lN _ | apply lI | refine lB ?_ fun _ => ?_
theorem Fia.calls (k : Nat) (F : Bool) (O : Option Addr) (P : Nat) (B : List Int) (G : Bool) (Q : Option Addr) (R : Nat) (E : List Int) (r : Bool) (w : World) (ab : Kd.C (Kd.int .u64) w O B.length B) (ac : B.length ≤ P) (ad : Kd.C (Kd.int .u64) w Q E.length E) (ae : E.length ≤ R) (h : Fia.f k F B G E = some r) :
  Calls Try.prog 88 #[.agg #[.bool F, .slice O B.length P], .agg #[.bool G, .slice Q E.length R]] w fun e w' => e = .returned (.bool r) ∧ Below w.heap.size w w' := by
 have hu127 := Try.underlying127
 have hfd127_0 : ∀ (z0 z1 : Value) (W : World), (Instr.field 127 (.agg #[z0, z1]) 0).run Try.prog W = .ok z0 W := fun z0 z1 W => by kernel_rfl
 have ag := aM ab; have ah := aM ac; clear ab ac; have ai := aM ad; have aj := aM ae; clear ad ae; have HB := aM (Below.refl w.heap.size w); rw [Fia.f] at h; have H := h; clear h; replace H := Option.bind_eq_some_iff.mp H; obtain ⟨⟨Y, Z⟩, an, H⟩ := H; replace H : ((Fj.f k F B Y Z).bind fun ak => (some ak.1)) = some r := H; have A3 := aM an; clear an; replace H := Option.bind_eq_some_iff.mp H; obtain ⟨⟨af, aw⟩, ao, H⟩ := H; replace H : (some af) = some r := H; have A4 := aM ao; clear ao; obtain rfl := Option.some.inj H
 go_enter Try.func88, Try.ntmps88
 try go_wp2_with (first | ((with_reducible refine gate_dst (N := 2) rfl ?_); refine be_ (cs := #[.bool F, .slice O B.length P]) (t := 127) ?_; intro I hg w5 aT hb; have z := aM (aT); have al := gE hg (bP0 HB); have D := gE hg (bP0 HB); replace HB := hS0 HB hb; clear hb aT hg) | ((with_reducible refine gate_dst (N := 3) rfl ?_); refine be_ (cs := #[.bool G, .slice Q E.length R]) (t := 127) ?_; intro J hg w6 aT hb; have A := aM (aT); have am := gE hg (bP1 HB D); have L := gE hg (bP1 HB D); replace HB := hS1 HB D hb; have ap := nL hg z; have aq := nG hg z; replace z := kB z hb; clear hb aT hg))
 replace z := kD z; replace A := kD A; replace HB := aM (below_drew1 HB.out); refine start_ (n := 6) (S := fun w' => w'.cell? ⟨I, 0, none⟩ = some (.bool F) ∧ w'.cell? ⟨I, 1, none⟩ = some (.slice O B.length P) ∧ w'.cell? ⟨J, 0, none⟩ = some (.bool G) ∧ w'.cell? ⟨J, 1, none⟩ = some (.slice Q E.length R)) (ds := []) (bl 6 0) (by kernel_rfl) rfl rfl ⟨(blk_cell z.out 0).trans rfl, (blk_cell z.out 1).trans rfl, (blk_cell A.out 0).trans rfl, (blk_cell A.out 1).trans rfl⟩ (fun aS => ?_); generalize w6.drew = w7 at z A HB aS ⊢; refine take_ (i := 0) (N := some 5) (v := ?_) (a' := ?_) (bl 6 1) rfl rfl (by kernel_rfl) (fun _ _ _ h => h) (Or.inl ⟨by rfl, ?_⟩) aS ?_ ?_; rotate_left
 ·rintro w' ⟨s0, s1, s2, s3⟩
  go_simp
  with_reducible rfl
 rotate_left
 ·simp only [Act.put, sA, sB, sC, i64_w, i32_w]
  rfl
 refine take_ (i := 1) (N := some 6) (v := ?_) (a' := ?_) (bl 6 3) rfl rfl (by kernel_rfl) (fun _ _ _ h => h) (Or.inl ⟨by rfl, ?_⟩) aS ?_ ?_; rotate_left
 ·rintro w' ⟨s0, s1, s2, s3⟩
  go_simp
  with_reducible rfl
 rotate_left
 ·simp only [Act.put, sA, sB, sC, i64_w, i32_w]
  rfl
 refine one_ (i := 2) (N := some 7) (bl 6 7) rfl rfl (by kernel_rfl) (by decide) (fun K hK => ?_); refine gS_ Try.func102 #[.agg #[.bool G, .slice Q E.length R]] ?_
 with_reducible refine (Fib.calls k G (fun k_ => k_ < w.heap.size) _ _ E Y Z _ ?s1 A3.out).mono ?_
 (case s1 => exact Kd.V_mk aj.out (Kd.F_below (Kd.C_F (Kd.heap_int .u64) ai.out) (bP2 HB D L)))
 rintro e w8 ⟨aH, rfl, aa, hb⟩; refine ⟨_, rfl, ?_⟩; have U := aM (Kd.V_lower (Kd.V_mono (ok' := fun k_ => k_ ≠ I ∧ k_ ≠ J) aa (fun k_ hk_ => ⟨Or.elim hk_ (fun hs_ => fun e_ => Nat.not_le.2 hs_ (by rw [e_]; exact al.out)) (fun hn_ => (Kd.freshB (g := I) (o := .cells #[.bool F, .slice O B.length P] 127 (0, 0)) (kO z.out) k_ hn_)), Or.elim hk_ (fun hs_ => fun e_ => Nat.not_le.2 hs_ (by rw [e_]; exact am.out)) (fun hn_ => (Kd.freshB (g := J) (o := .cells #[.bool G, .slice Q E.length R] 127 (0, 0)) (kO A.out) k_ hn_))⟩)) (below_size (bP2 HB D L))); replace z := kB z hb; replace A := kB A hb; replace HB := hS2 HB D L hb
 obtain ⟨ay, az, ar⟩ := Kd.V_slice U.out
 (first | subst ar | obtain ⟨rfl, rfl⟩ := iS ar)
 refine hK.out _ _ ⟨(blk_cell z.out 0).trans rfl, (blk_cell z.out 1).trans rfl, (blk_cell A.out 0).trans rfl, (blk_cell A.out 1).trans rfl⟩ (fun aS => ?_); clear hK K; refine nm_ 7 ?_; refine one_ (i := 3) (N := some 8) (bl 6 15) rfl rfl (by kernel_rfl) (by decide) (fun K hK => ?_); refine gS_ Try.func90 #[.agg #[.bool F, .slice O B.length P], .agg #[.bool Y, .slice ay Z.length az]] ?_
 with_reducible refine (Fj.calls k F _ _ B Y _ _ Z af aw _ ?s1 ?s2 ?s3 ?s4 A4.out).mono ?_
 (case s1 => exact cB ag HB)
 (case s2 => exact ah.out)
 (case s3 => exact cO (Kd.V_reads' U.out).2.2)
 (case s4 => exact (Kd.V_reads' U.out).2.1)
 rintro e aJ ⟨aI, rfl, aa, hb⟩; refine ⟨_, rfl, ?_⟩; replace U := aM (Kd.V_below (vO U.out) hb); have aD := aM (Kd.V_lower (Kd.V_mono (ok' := fun k_ => k_ ≠ I ∧ k_ ≠ J) aa (fun k_ hk_ => ⟨(Kd.freshB (g := I) (o := .cells #[.bool F, .slice O B.length P] 127 (0, 0)) (kO z.out) k_ hk_), (Kd.freshB (g := J) (o := .cells #[.bool G, .slice Q E.length R] 127 (0, 0)) (kO A.out) k_ hk_)⟩)) (below_size (bP2 HB D L))); replace z := kB z hb; replace A := kB A hb; replace HB := hS2 HB D L hb
 refine hK.out _ _ ⟨(blk_cell z.out 0).trans rfl, (blk_cell z.out 1).trans rfl, (blk_cell A.out 0).trans rfl, (blk_cell A.out 1).trans rfl⟩ (fun aS => ?_); clear hK K; refine nm_ 8 ?_; refine pure_ (i := 4) (N := some 9) (v := ?_) (a' := ?_) (bl 6 31) rfl rfl (by kernel_rfl) (fun _ _ _ h => h) (Or.inl ⟨by rfl, ?_⟩) ?_ ?_; rotate_left
 ·intro w'
  go_simp
  with_reducible rfl
 rotate_left
 ·simp only [Act.put, sA, sB, sC, i64_w, i32_w]
  rfl
 refine pure_ (i := 5) (N := some 4) (v := ?_) (a' := ?_) (bl 6 63) rfl rfl (by kernel_rfl) (fun _ _ _ h => h) (Or.inl ⟨by rfl, ?_⟩) ?_ ?_; rotate_left
 ·intro w'
  go_simp
  with_reducible rfl
 rotate_left
 ·simp only [Act.put, sA, sB, sC, i64_w, i32_w]
  rfl
 refine done_ (by kernel_rfl) ?_
 try go_wp2
 go_ret
 exact ⟨eW, bS2 HB.out D.out L.out⟩
def Fic.f (k : Nat) (a0 : Int) : Option (Bool × List Int) := if a0 < 0 then ((Fjc.f k true (([Go.bits .and .u64 (IntKind.u64.wrap (-(IntKind.u64.wrap (a0)))) 65535, Go.bits .and .u64 ((IntKind.u64.wrap (-(IntKind.u64.wrap (a0)))) / 65536) 65535, Go.bits .and .u64 ((IntKind.u64.wrap (-(IntKind.u64.wrap (a0)))) / 4294967296) 65535, (IntKind.u64.wrap (-(IntKind.u64.wrap (a0)))) / 281474976710656] : List Int))).bind fun bt516 => (some (bt516.1, bt516.2))) else ((Fjc.f k false (([Go.bits .and .u64 (IntKind.u64.wrap (a0)) 65535, Go.bits .and .u64 ((IntKind.u64.wrap (a0)) / 65536) 65535, Go.bits .and .u64 ((IntKind.u64.wrap (a0)) / 4294967296) 65535, (IntKind.u64.wrap (a0)) / 281474976710656] : List Int))).bind fun bt523 => (some (bt523.1, bt523.2)))
theorem Fic.mono : ∀ a0 k, LeO (Fic.f k a0) (Fic.f (k + 1) a0) := by
 intro a0 k
 unfold Fic.f
 repeat' first | (with_reducible first | exact Fjc.mono _ _ _ | exact lA | apply lI | refine lB ?_ fun _ => ?_) | exact lN _ | apply lI | refine lB ?_ fun _ => ?_
theorem Fic.calls (k : Nat) (A : Int) (r1 : Bool) (r2 : List Int) (w : World) (h : Fic.f k A = some (r1, r2)) :
  Calls Try.prog 89 #[.int .i64 A] w fun e w' => ∃ ap : Value, e = .returned (.agg #[.bool r1, ap]) ∧ Kd.V (Kd.int .u64) 137 w' w.heap.size (fun k_ => (w.heap.size ≤ k_)) ap r2 ∧ Below w.heap.size w w' := by
 have hu127 := Try.underlying127; have HB := aM (Below.refl w.heap.size w); rw [Fic.f] at h; have H := h; clear h
 apply iB H <;> clear H <;> intro c2 H
 ·have av := dT c2; clear c2; obtain ⟨U, G⟩ : ∃ y_ : List Int, y_ = (([Go.bits .and .u64 (IntKind.u64.wrap (-(IntKind.u64.wrap (A)))) 65535, Go.bits .and .u64 ((IntKind.u64.wrap (-(IntKind.u64.wrap (A)))) / 65536) 65535, Go.bits .and .u64 ((IntKind.u64.wrap (-(IntKind.u64.wrap (A)))) / 4294967296) 65535, (IntKind.u64.wrap (-(IntKind.u64.wrap (A)))) / 281474976710656] : List Int)) := ⟨_, rfl⟩
  first | replace H := rI G H | rw [← G] at H
  have am := aM G; clear G; replace H := Option.bind_eq_some_iff.mp H; obtain ⟨⟨J, L⟩, aq, H⟩ := H; replace H : (some (J, L)) = some (r1, r2) := H; have A3 := aM aq; clear aq; obtain ⟨rfl, rfl⟩ := pE2 H
  go_enter Try.func89, Try.ntmps89
  go_wp2_with (first | ((with_reducible refine gate_dst (N := 2) rfl ?_); refine be_ (cs := #[.bool false, .slice none 0 0]) (t := 127) ?_; intro D hg w4 aS hb; have z := aM (aS); have an := gE hg (bP0 HB); have B := gE hg (bP0 HB); replace HB := hS0 HB hb; clear hb aS hg) | ((with_reducible refine gate_dst (N := 22) rfl ?_); refine Kd.R_lit (Kd.int .u64) _ 137 ?hg (N := 22) ?hd (xs := ([Go.bits .and .u64 (IntKind.u64.wrap (-(IntKind.u64.wrap (A)))) 65535, Go.bits .and .u64 ((IntKind.u64.wrap (-(IntKind.u64.wrap (A)))) / 65536) 65535, Go.bits .and .u64 ((IntKind.u64.wrap (-(IntKind.u64.wrap (A)))) / 4294967296) 65535, (IntKind.u64.wrap (-(IntKind.u64.wrap (A)))) / 281474976710656] : List Int)) (inner := [.int .u64 (Go.bits .and .u64 (IntKind.u64.wrap (-(IntKind.u64.wrap (A)))) 65535), .int .u64 (Go.bits .and .u64 ((IntKind.u64.wrap (-(IntKind.u64.wrap (A)))) / 65536) 65535), .int .u64 (Go.bits .and .u64 ((IntKind.u64.wrap (-(IntKind.u64.wrap (A)))) / 4294967296) 65535), .int .u64 ((IntKind.u64.wrap (-(IntKind.u64.wrap (A)))) / 281474976710656)]) (ok := fun _ => True) (okp := fun _ => True) ?hr ?hp (fun _ hk => hk) trivial (Below.refl _ _) (Nat.le_refl _) (by simp) ?_; (case hd => rfl); (case hg => rfl); (case hr => first | (go_simp; done) | (go_simp; rfl)); (case hp => exact (Reps.one (show Kd.M (Kd.int .u64) _ _ _ (Go.bits .and .u64 (IntKind.u64.wrap (-(IntKind.u64.wrap (A)))) 65535) [.int .u64 (Go.bits .and .u64 (IntKind.u64.wrap (-(IntKind.u64.wrap (A)))) 65535)] from rfl) (Reps.one (show Kd.M (Kd.int .u64) _ _ _ (Go.bits .and .u64 ((IntKind.u64.wrap (-(IntKind.u64.wrap (A)))) / 65536) 65535) [.int .u64 (Go.bits .and .u64 ((IntKind.u64.wrap (-(IntKind.u64.wrap (A)))) / 65536) 65535)] from rfl) (Reps.one (show Kd.M (Kd.int .u64) _ _ _ (Go.bits .and .u64 ((IntKind.u64.wrap (-(IntKind.u64.wrap (A)))) / 4294967296) 65535) [.int .u64 (Go.bits .and .u64 ((IntKind.u64.wrap (-(IntKind.u64.wrap (A)))) / 4294967296) 65535)] from rfl) (Reps.one (show Kd.M (Kd.int .u64) _ _ _ ((IntKind.u64.wrap (-(IntKind.u64.wrap (A)))) / 281474976710656) [.int .u64 ((IntKind.u64.wrap (-(IntKind.u64.wrap (A)))) / 281474976710656)] from rfl) (Reps.none _ _)))))); intro aK w5 Z hb aU aT; clear aU aT; replace Z := nW am Z; have E := rW (Kd.R_newM (M := fun k_ => (w.heap.size ≤ k_)) Z (below_size (bP1 HB B)) (fun k_ h_ => h_)) (bP1 HB B); replace z := kB z hb; replace HB := hS1 HB B hb; clear hb Z; obtain ⟨ar, au, rfl⟩ := sL E) | ((with_reducible refine gate_callee (f := 103) rfl ?_); refine gL_ (some 24) Try.func103 #[.agg #[.bool true, .slice ar U.length au]] ?_; (with_reducible refine (Fjc.calls k true (fun k_ => some k_ = (.slice ar U.length au : Value).ownBlock) _ _ U J L _ ?s1 A3.out).mono ?_); (case s1 => exact Kd.R_V (Kd.R_tight rfl (Kd.R_types (E.out) z.out (by decide)))); rintro e w8 ⟨aL, rfl, R, hb⟩; refine ⟨_, rfl, ?_⟩; have aa := aM (Kd.V_lower (Kd.V_mono (ok' := fun k_ => (w.heap.size ≤ k_) ∧ k_ ≠ D) R (fun k_ hk_ => ⟨Or.elim hk_ (fun hs_ => ((Kd.R_types (E.out) z.out (by decide)).1 k_ hs_.symm).1.1) (fun hn_ => (Nat.le_trans (below_size (bP1 HB B)) hn_)), Or.elim hk_ (fun hs_ => ((Kd.R_types (E.out) z.out (by decide)).1 k_ hs_.symm).2) (fun hn_ => (Kd.freshB (g := D) (o := .cells #[.bool false, .slice none 0 0] 127 (0, 0)) (kO z.out) k_ hn_))⟩)) (below_size (bP1 HB B))); replace E := rB E hb; replace z := kB z hb; replace HB := hS1 HB B hb; obtain ⟨aE, aF, aG, aH⟩ := bG2 z; obtain ⟨ad, ae, aw⟩ := Kd.V_slice aa.out; subst aw))
  refine bodyPost_ret (results_cell_row rfl _ _ D 127 #[.bool J, .slice ad L.length ae] (0, 0) _ rfl (by (with_reducible repeat (first | refine blk_drewN ?_ _ | refine blk_drew ?_ | refine blk_alloc ?_ _)); exact blk_put (blk_put z.out 0 _ rfl) 1 _ rfl) Try.underlying127 rfl (by kernel_rfl)) rfl ?_; exact ⟨_, eW, by (with_reducible repeat (first | apply Kd.V_alloc | apply Kd.V_drewN | apply Kd.V_drew)); exact Kd.V_mono (Kd.V_far (p := ⟨D, 1, none⟩) (Kd.V_far (p := ⟨D, 0, none⟩) (Kd.V_mono aa.out (fun k_ hk => (⟨hk, hk.2⟩ : _ ∧ k_ ≠ D))) (fun _ hk => hk.2) (.bool J)) (fun _ hk => hk.2) (.slice ad L.length ae)) (fun _ hk => hk.1.1), bS1 HB.out B.out⟩
 ·have av := decide_eq_false c2; clear c2; obtain ⟨Y, I⟩ : ∃ y_ : List Int, y_ = (([Go.bits .and .u64 (IntKind.u64.wrap (A)) 65535, Go.bits .and .u64 ((IntKind.u64.wrap (A)) / 65536) 65535, Go.bits .and .u64 ((IntKind.u64.wrap (A)) / 4294967296) 65535, (IntKind.u64.wrap (A)) / 281474976710656] : List Int)) := ⟨_, rfl⟩
  first | replace H := rI I H | rw [← I] at H
  have ao := aM I; clear I; replace H := Option.bind_eq_some_iff.mp H; obtain ⟨⟨O, P⟩, af, H⟩ := H; replace H : (some (O, P)) = some (r1, r2) := H; have aI := aM af; clear af; obtain ⟨rfl, rfl⟩ := pE2 H
  go_enter Try.func89, Try.ntmps89
  go_wp2_with (first | ((with_reducible refine gate_dst (N := 2) rfl ?_); refine be_ (cs := #[.bool false, .slice none 0 0]) (t := 127) ?_; intro D hg aP aS hb; have z := aM (aS); have an := gE hg (bP0 HB); have B := gE hg (bP0 HB); replace HB := hS0 HB hb; clear hb aS hg) | ((with_reducible refine gate_dst (N := 22) rfl ?_); refine Kd.R_lit (Kd.int .u64) _ 137 ?hg (N := 22) ?hd (xs := ([Go.bits .and .u64 (IntKind.u64.wrap (A)) 65535, Go.bits .and .u64 ((IntKind.u64.wrap (A)) / 65536) 65535, Go.bits .and .u64 ((IntKind.u64.wrap (A)) / 4294967296) 65535, (IntKind.u64.wrap (A)) / 281474976710656] : List Int)) (inner := [.int .u64 (Go.bits .and .u64 (IntKind.u64.wrap (A)) 65535), .int .u64 (Go.bits .and .u64 ((IntKind.u64.wrap (A)) / 65536) 65535), .int .u64 (Go.bits .and .u64 ((IntKind.u64.wrap (A)) / 4294967296) 65535), .int .u64 ((IntKind.u64.wrap (A)) / 281474976710656)]) (ok := fun _ => True) (okp := fun _ => True) ?hr ?hp (fun _ hk => hk) trivial (Below.refl _ _) (Nat.le_refl _) (by simp) ?_; (case hd => rfl); (case hg => rfl); (case hr => first | (go_simp; done) | (go_simp; rfl)); (case hp => exact (Reps.one (show Kd.M (Kd.int .u64) _ _ _ (Go.bits .and .u64 (IntKind.u64.wrap (A)) 65535) [.int .u64 (Go.bits .and .u64 (IntKind.u64.wrap (A)) 65535)] from rfl) (Reps.one (show Kd.M (Kd.int .u64) _ _ _ (Go.bits .and .u64 ((IntKind.u64.wrap (A)) / 65536) 65535) [.int .u64 (Go.bits .and .u64 ((IntKind.u64.wrap (A)) / 65536) 65535)] from rfl) (Reps.one (show Kd.M (Kd.int .u64) _ _ _ (Go.bits .and .u64 ((IntKind.u64.wrap (A)) / 4294967296) 65535) [.int .u64 (Go.bits .and .u64 ((IntKind.u64.wrap (A)) / 4294967296) 65535)] from rfl) (Reps.one (show Kd.M (Kd.int .u64) _ _ _ ((IntKind.u64.wrap (A)) / 281474976710656) [.int .u64 ((IntKind.u64.wrap (A)) / 281474976710656)] from rfl) (Reps.none _ _)))))); intro aN aQ Q hb aU aT; clear aU aT; replace Q := nW ao Q; have F := rW (Kd.R_newM (M := fun k_ => (w.heap.size ≤ k_)) Q (below_size (bP1 HB B)) (fun k_ h_ => h_)) (bP1 HB B); replace z := kB z hb; replace HB := hS1 HB B hb; clear hb Q; obtain ⟨ag, ah, rfl⟩ := sL F) | ((with_reducible refine gate_callee (f := 103) rfl ?_); refine gL_ (some 24) Try.func103 #[.agg #[.bool false, .slice ag Y.length ah]] ?_; (with_reducible refine (Fjc.calls k false (fun k_ => some k_ = (.slice ag Y.length ah : Value).ownBlock) _ _ Y O P _ ?s1 aI.out).mono ?_); (case s1 => exact Kd.R_V (Kd.R_tight rfl (Kd.R_types (F.out) z.out (by decide)))); rintro e aR ⟨aO, rfl, R, hb⟩; refine ⟨_, rfl, ?_⟩; have ab := aM (Kd.V_lower (Kd.V_mono (ok' := fun k_ => (w.heap.size ≤ k_) ∧ k_ ≠ D) R (fun k_ hk_ => ⟨Or.elim hk_ (fun hs_ => ((Kd.R_types (F.out) z.out (by decide)).1 k_ hs_.symm).1.1) (fun hn_ => (Nat.le_trans (below_size (bP1 HB B)) hn_)), Or.elim hk_ (fun hs_ => ((Kd.R_types (F.out) z.out (by decide)).1 k_ hs_.symm).2) (fun hn_ => (Kd.freshB (g := D) (o := .cells #[.bool false, .slice none 0 0] 127 (0, 0)) (kO z.out) k_ hn_))⟩)) (below_size (bP1 HB B))); replace F := rB F hb; replace z := kB z hb; replace HB := hS1 HB B hb; obtain ⟨az, aA, aB, aC⟩ := bG2 z; obtain ⟨ai, aj, ay⟩ := Kd.V_slice ab.out; subst ay))
  refine bodyPost_ret (results_cell_row rfl _ _ D 127 #[.bool O, .slice ai P.length aj] (0, 0) _ rfl (by (with_reducible repeat (first | refine blk_drewN ?_ _ | refine blk_drew ?_ | refine blk_alloc ?_ _)); exact blk_put (blk_put z.out 0 _ rfl) 1 _ rfl) Try.underlying127 rfl (by kernel_rfl)) rfl ?_; exact ⟨_, eW, by (with_reducible repeat (first | apply Kd.V_alloc | apply Kd.V_drewN | apply Kd.V_drew)); exact Kd.V_mono (Kd.V_far (p := ⟨D, 1, none⟩) (Kd.V_far (p := ⟨D, 0, none⟩) (Kd.V_mono ab.out (fun k_ hk => (⟨hk, hk.2⟩ : _ ∧ k_ ≠ D))) (fun _ hk => hk.2) (.bool O)) (fun _ hk => hk.2) (.slice ai P.length aj)) (fun _ hk => hk.1.1), bS1 HB.out B.out⟩
mutual
def Fi.j0 : Nat → Bool → Bool → List Int → Option (Int × Bool)
 | 0, _, _, _ => none
 | k + 1, x13, x528000, x528001 => if x13 = true then (some (0, false)) else (Fi.l0 k 0 (wrap64 ((x528001.length : Int) - 1)) x528000 x528001)
def Fi.l0 : Nat → Int → Int → Bool → List Int → Option (Int × Bool)
 | 0, _, _, _, _ => none
 | k + 1, x4, x5, x528000, x528001 => if x5 ≥ 0 then (if 0 ≤ x5 then (if x5 < (x528001.length : Int) then (Fi.l0 k (Go.bits .or .u64 (IntKind.u64.wrap (x4 * 65536)) (rd x528001 x5)) (wrap64 (x5 - 1)) x528000 x528001) else (none)) else (none)) else (if x528000 = true then (some (wrap64 (IntKind.u64.wrap (-x4)), true)) else (some (wrap64 (x4), true)))
end
def Fi.f (k : Nat) (a0_0 : Bool) (l0_1 : List Int) : Option (Int × Bool) := (Fic.f k (-9223372036854775808)).bind fun bt528 => ((Fia.f k a0_0 l0_1 bt528.1 bt528.2).bind fun t532 => (if t532 = true then (Fi.j0 k true a0_0 l0_1) else ((Fic.f k 9223372036854775807).bind fun bt533 => ((Fia.f k bt533.1 bt533.2 a0_0 l0_1).bind fun t537 => (Fi.j0 k t537 a0_0 l0_1)))))
theorem Fi.mono_l : ∀ k, (∀ y0 y1 y2, LeO (Fi.j0 k y0 y1 y2) (Fi.j0 (k + 1) y0 y1 y2)) ∧ (∀ y0 y1 y2 y3, LeO (Fi.l0 k y0 y1 y2 y3) (Fi.l0 (k + 1) y0 y1 y2 y3))
 | 0 => ⟨fun _ _ _ r h => by simp [Fi.j0] at h, fun _ _ _ _ r h => by simp [Fi.l0] at h⟩
 | k + 1 => by
  obtain ⟨ih0, ih1⟩ := Fi.mono_l k; refine ⟨?_, ?_⟩
  ·intro y0 y1 y2
   unfold Fi.j0
   repeat' first | (with_reducible first | exact ih0 _ _ _ | exact ih1 _ _ _ _ | exact Fia.mono _ _ _ _ _ | exact Fic.mono _ _ | exact lA | apply lI | refine lB ?_ fun _ => ?_) | exact lN _ | apply lI | refine lB ?_ fun _ => ?_
  ·intro y0 y1 y2 y3
   unfold Fi.l0
   repeat' first | (with_reducible first | exact ih0 _ _ _ | exact ih1 _ _ _ _ | exact Fia.mono _ _ _ _ _ | exact Fic.mono _ _ | exact lA | apply lI | refine lB ?_ fun _ => ?_) | exact lN _ | apply lI | refine lB ?_ fun _ => ?_
theorem Fi.mono : ∀ a0 a1 k, LeO (Fi.f k a0 a1) (Fi.f (k + 1) a0 a1) := by
 intro a0 a1 k; obtain ⟨ih0, ih1⟩ := Fi.mono_l k
 unfold Fi.f
 repeat' first | (with_reducible first | exact ih0 _ _ _ | exact ih1 _ _ _ _ | exact Fia.mono _ _ _ _ _ | exact Fic.mono _ _ | exact lA | apply lI | refine lB ?_ fun _ => ?_) | exact lN _ | apply lI | refine lB ?_ fun _ => ?_
def Fi.T1 : Bool × List (List Nat × List Nat) := (true, [([], []), ([], []), ([0, 1, 1], [0, 1]), ([2, 2], [2]), ([3, 3], [3]), ([3], [3]), ([4, 5, 4, 3], [3, 4, 5]), ([3, 6], [3, 6])])
def Fi.B1 : List Nat := [0, 0, 3, 7, 15, 15, 63, 127]
theorem Fi.tab1 : rtab .any (opsOf Try.f76 1) = Fi.T1 := by kernel_rfl
theorem Fi.bits1 : waitsOk Fi.T1.2 Fi.B1 = true := by kernel_rfl
theorem Fi.calls (k : Nat) (B : Bool) (G : Option Addr) (I : Nat) (A : List Int) (r1 : Int) (r2 : Bool) (w : World) (al : Kd.C (Kd.int .u64) w G A.length A) (am : A.length ≤ I) (h : Fi.f k B A = some (r1, r2)) :
  Calls Try.prog 76 #[.agg #[.bool B, .slice G A.length I]] w fun e w' => e = .returned (.tuple #[.int .i64 r1, .bool r2]) ∧ Below w.heap.size w w' := by
 have hu127 := Try.underlying127; have V := aM al; have aa := aM am; clear al am; have HB := aM (Below.refl w.heap.size w); rw [Fi.f] at h; have H := h; clear h; have aw := aM H; clear H
 go_enter Try.func76, Try.ntmps76
 go_upto_region 1 with (first | ((with_reducible refine gate_dst (N := 1) rfl ?_); refine be_ (cs := #[.bool B, .slice G A.length I]) (t := 127) ?_; intro F hg w3 au hb; have z := aM (au); have bf := gE hg (bP0 HB); have D := gE hg (bP0 HB); replace HB := hS0 HB hb; clear hb au hg))
 (try simp only [Act.put, sA, sB, sC])
 go_cut [13] (fun a8 wc => ∃ (kq : Nat) (W : Bool), a8 = .bool W ∧ Aside0 (Fi.j0 kq W B A = some (r1, r2)) ∧ Aside0 (kq ≤ k) ∧ Aside0 (wc.heap[F]? = some (.cells #[.bool B, (.slice G A.length I)] 127 (0, 0))) ∧ BA w wc)
 case first =>
  have H := aw.out; clear aw; replace H := Option.bind_eq_some_iff.mp H; obtain ⟨⟨L, M⟩, aD, H⟩ := H; replace H : ((Fia.f k B A L M).bind fun ai => (if ai = true then (Fi.j0 k true B A) else ((Fic.f k 9223372036854775807).bind fun an => ((Fia.f k an.1 an.2 B A).bind fun P => (Fi.j0 k P B A))))) = some (r1, r2) := H; have A4 := aM aD; clear aD; apply bSx H; clear H; intro ai A5 H
  by_cases c6 : ai = true
  ·subst c6
   rw [if_pos rfl] at H; have H' := aM H; clear H
   try go_wp2
   replace z := kD z; replace HB := aM (below_drew1 HB.out); refine start_ (n := 8) (S := fun w' => w'.cell? ⟨F, 0, none⟩ = some (.bool B) ∧ w'.cell? ⟨F, 1, none⟩ = some (.slice G A.length I)) (ds := []) (bl 8 0) (by kernel_rfl) rfl rfl (bD2 z) (fun R => ?_); refine with_tabW Fi.tab1 Fi.bits1 (fun U ah => ?_); generalize w3.drew = w7 at z HB R ⊢; refine tk2_ 0 6 (bl 8 1) U ah R ?_; refine one_ (i := 1) (N := some 7) (bl 8 3) rfl rfl (one_of U.out (by kernel_rfl)) (by decide) (fun K hK => ?_); refine gS_ Try.func89 #[.int .i64 (-9223372036854775808)] ?_
   with_reducible refine (Fic.calls k (-9223372036854775808) L M _ A4.out).mono ?_
   rintro e w8 ⟨aH, rfl, Q, hb⟩; refine ⟨_, rfl, ?_⟩; have E := aM (Kd.V_lower (Kd.V_mono (ok' := fun k_ => k_ ≠ F) Q (fun k_ hk_ => (Kd.freshB (g := F) (o := .cells #[.bool B, .slice G A.length I] 127 (0, 0)) (kO z.out) k_ hk_))) (below_size (bP1 HB D))); replace z := kB z hb; replace HB := hS1 HB D hb
   obtain ⟨bb, bc, aF⟩ := Kd.V_slice E.out
   (first | subst aF | obtain ⟨rfl, rfl⟩ := iS aF)
   refine hK.out _ _ (bD2 z) (fun R => ?_); clear hK K; refine nm_ 7 ?_; refine one_ (i := 2) (N := some 8) (bl 8 7) rfl rfl (one_of U.out (by kernel_rfl)) (by decide) (fun K hK => ?_); refine gS_ Try.func88 #[.agg #[.bool B, .slice G A.length I], .agg #[.bool L, .slice bb M.length bc]] ?_
   with_reducible refine (Fia.calls k B _ _ A L _ _ M true _ ?s1 ?s2 ?s3 ?s4 A5.out).mono ?_
   (case s1 => exact cB V HB)
   (case s2 => exact aa.out)
   (case s3 => exact cO (Kd.V_reads' E.out).2.2)
   (case s4 => exact (Kd.V_reads' E.out).2.1)
   rintro e bn ⟨rfl, hb⟩; refine ⟨_, rfl, ?_⟩; replace E := aM (Kd.V_below (vO E.out) hb); replace z := kB z hb; replace HB := hS1 HB D hb
   refine hK.out _ _ (bD2 z) (fun R => ?_); clear hK K; refine nm_ 8 ?_; refine pu_ 3 9 (bl 8 15) U ?_; refine pn_ 4 10 (bl 8 31) U ?_; refine pn_ 5 11 (bl 8 63) U ?_; refine pn_ 6 12 (bl 8 127) U ?_; refine pu_ 7 13 (bl 8 255) U ?_; refine done_ (done_of U.out (by kernel_rfl)) ?_
   try go_wp2
   go_meet
   case rel => exact ⟨_, (true), sI, H', lE, kQ z, bT1 HB D⟩
  ·replace c6 := Bool.eq_false_iff.mpr c6; subst c6
   rw [if_neg nF] at H; replace H := Option.bind_eq_some_iff.mp H; obtain ⟨⟨ab, ac⟩, ax, H⟩ := H; replace H : ((Fia.f k ab ac B A).bind fun P => (Fi.j0 k P B A)) = some (r1, r2) := H; have bd := aM ax; clear ax; apply bSx H; clear H; intro P be H; have H' := aM H; clear H
   try go_wp2
   replace z := kD z; replace HB := aM (below_drew1 HB.out); refine start_ (n := 8) (S := fun w' => w'.cell? ⟨F, 0, none⟩ = some (.bool B) ∧ w'.cell? ⟨F, 1, none⟩ = some (.slice G A.length I)) (ds := []) (bl 8 0) (by kernel_rfl) rfl rfl (bD2 z) (fun R => ?_); refine with_tabW Fi.tab1 Fi.bits1 (fun U ah => ?_); generalize w3.drew = bo at z HB R ⊢; refine tk2_ 0 6 (bl 8 1) U ah R ?_; refine one_ (i := 1) (N := some 7) (bl 8 3) rfl rfl (one_of U.out (by kernel_rfl)) (by decide) (fun K hK => ?_); refine gS_ Try.func89 #[.int .i64 (-9223372036854775808)] ?_
   with_reducible refine (Fic.calls k (-9223372036854775808) L M _ A4.out).mono ?_
   rintro e bp ⟨aH, rfl, Q, hb⟩; refine ⟨_, rfl, ?_⟩; have E := aM (Kd.V_lower (Kd.V_mono (ok' := fun k_ => k_ ≠ F) Q (fun k_ hk_ => (Kd.freshB (g := F) (o := .cells #[.bool B, .slice G A.length I] 127 (0, 0)) (kO z.out) k_ hk_))) (below_size (bP1 HB D))); replace z := kB z hb; replace HB := hS1 HB D hb
   obtain ⟨aI, aJ, az⟩ := Kd.V_slice E.out
   (first | subst az | obtain ⟨rfl, rfl⟩ := iS az)
   refine hK.out _ _ (bD2 z) (fun R => ?_); clear hK K; refine nm_ 7 ?_; refine one_ (i := 2) (N := some 8) (bl 8 7) rfl rfl (one_of U.out (by kernel_rfl)) (by decide) (fun K hK => ?_); refine gS_ Try.func88 #[.agg #[.bool B, .slice G A.length I], .agg #[.bool L, .slice aI M.length aJ]] ?_
   with_reducible refine (Fia.calls k B _ _ A L _ _ M false _ ?s1 ?s2 ?s3 ?s4 A5.out).mono ?_
   (case s1 => exact cB V HB)
   (case s2 => exact aa.out)
   (case s3 => exact cO (Kd.V_reads' E.out).2.2)
   (case s4 => exact (Kd.V_reads' E.out).2.1)
   rintro e bq ⟨rfl, hb⟩; refine ⟨_, rfl, ?_⟩; replace E := aM (Kd.V_below (vO E.out) hb); replace z := kB z hb; replace HB := hS1 HB D hb
   refine hK.out _ _ (bD2 z) (fun R => ?_); clear hK K; refine nm_ 8 ?_; refine pu_ 3 9 (bl 8 15) U ?_; refine tk2_ 5 11 (bl 8 47) U ah R ?_; refine one_ (i := 4) (N := some 10) (bl 8 63) rfl rfl (one_of U.out (by kernel_rfl)) (by decide) (fun K hK => ?_); refine gS_ Try.func89 #[.int .i64 9223372036854775807] ?_
   with_reducible refine (Fic.calls k 9223372036854775807 ab ac _ bd.out).mono ?_
   rintro e br ⟨bj, rfl, Q, hb⟩; refine ⟨_, rfl, ?_⟩; replace E := aM (Kd.V_below (vO E.out) hb); have O := aM (Kd.V_lower (Kd.V_mono (ok' := fun k_ => k_ ≠ F) Q (fun k_ hk_ => (Kd.freshB (g := F) (o := .cells #[.bool B, .slice G A.length I] 127 (0, 0)) (kO z.out) k_ hk_))) (below_size (bP1 HB D))); replace z := kB z hb; replace HB := hS1 HB D hb
   obtain ⟨aK, aL, aA⟩ := Kd.V_slice O.out
   (first | subst aA | obtain ⟨rfl, rfl⟩ := iS aA)
   refine hK.out _ _ (bD2 z) (fun R => ?_); clear hK K; refine nm_ 10 ?_; refine one_ (i := 6) (N := some 12) (bl 8 127) rfl rfl (one_of U.out (by kernel_rfl)) (by decide) (fun K hK => ?_); refine gS_ Try.func88 #[.agg #[.bool ab, .slice aK ac.length aL], .agg #[.bool B, .slice G A.length I]] ?_
   with_reducible refine (Fia.calls k ab _ _ ac B _ _ A P _ ?s1 ?s2 ?s3 ?s4 be.out).mono ?_
   (case s1 => exact cO (Kd.V_reads' O.out).2.2)
   (case s2 => exact (Kd.V_reads' O.out).2.1)
   (case s3 => exact cB V HB)
   (case s4 => exact aa.out)
   rintro e bs ⟨rfl, hb⟩; refine ⟨_, rfl, ?_⟩; replace E := aM (Kd.V_below (vO E.out) hb); replace O := aM (Kd.V_below (vO O.out) hb); replace z := kB z hb; replace HB := hS1 HB D hb
   refine hK.out _ _ (bD2 z) (fun R => ?_); clear hK K; refine nm_ 12 ?_; refine pu_ 7 13 (bl 8 255) U ?_; refine done_ (done_of U.out (by kernel_rfl)) ?_
   try go_wp2
   go_meet
   case rel => exact ⟨_, (P), sI, H', lE, kQ z, bT1 HB D⟩
 case rest =>
  clear aw
  obtain ⟨kq, W, rfl, HA, HJ1, z, HB⟩ := hcut; cases kq with
  | zero => exact absurd HA.out (by simp [Fi.j0])
  | succ aG =>
   have H := HA.out; clear HA; simp only [Fi.j0] at H
   by_cases ao : W = true
   ·subst ao
    rw [if_pos rfl] at H; obtain ⟨rfl, rfl⟩ := pE2 H
    go_wp2
    go_ret2
    exact ⟨eW, bS1 HB.out D.out⟩
   ·replace ao := Bool.eq_false_iff.mpr ao; subst ao
    rw [if_neg nF] at H; have H' := aM H; clear H; obtain ⟨aP, aQ, aR, aS⟩ := bG2 z
    go_wp2
    go_loopg [4, 5] aG (fun kq v4 v5 w' => ∃ (ad : Int) (J : Int), v4 = .int .u64 ad ∧ v5 = .int .i64 J ∧ Aside0 (Fi.l0 kq ad J B A = some (r1, r2)) ∧ Aside0 (kq ≤ aG) ∧ Aside0 (w'.heap[F]? = some (.cells #[.bool B, (.slice G A.length I)] 127 (0, 0))) ∧ BA w w')
    case atStart => exact ⟨(0), (wrap64 ((A.length : Int) - 1)), sI, sI, H', ⟨Nat.le_refl _⟩, kQ z, bT1 HB D⟩
    case round =>
     clear H'
     obtain ⟨ad, J, rfl, rfl, HA, av, z, HB⟩ := hrel; cases gk with
     | zero => exact absurd HA.out (by simp [Fi.l0])
     | succ k2 =>
      have H := HA.out; clear HA; simp only [Fi.l0] at H
      apply iB H <;> clear H <;> intro Y H
      ·have aC := dT Y; clear Y
       apply iN H; clear H; intro ap H; have bg := dT ap; clear ap
       apply iN H; clear H; intro aq H; have bh := dT aq; clear aq; have H' := aM H; clear H; obtain ⟨aT, aU, aV, aW⟩ := bG2 z; obtain ⟨⟨bi, aN, Z⟩, aj, ak⟩ := xAt (Kd.at_int V.out) J; cases aN; replace Z := cX HB Z
       go_wp2
       go_roundg k2
       case measure => have := HJ1.out; have := av.out; omega
       case rel => exact ⟨(Go.bits .or .u64 (IntKind.u64.wrap (ad * 65536)) (rd A J)), (wrap64 (J - 1)), sI, sI, H', ⟨by have := HJ1.out; have := av.out; omega⟩, kQ z, bT1 HB D⟩
      ·have aC := decide_eq_false Y; clear Y
       by_cases ar : B = true
       ·subst ar
        rw [if_pos rfl] at H; obtain ⟨rfl, rfl⟩ := pE2 H; obtain ⟨aX, aY, aZ, a2⟩ := bG2 z
        go_wp2
        go_ret2
        exact ⟨eW, bS1 HB.out D.out⟩
       ·replace ar := Bool.eq_false_iff.mpr ar; subst ar
        rw [if_neg nF] at H; obtain ⟨rfl, rfl⟩ := pE2 H; obtain ⟨a3, a4, a5, a6⟩ := bG2 z
        go_wp2
        go_ret2
        exact ⟨eW, bS1 HB.out D.out⟩
end Go.Proofs.Ytninoenmhcbonaa.X
