/- What the functions of this seat compute, and that the program's calls come to just that: written by this session's own program out of the translation; no condition. -/
import Derived.Test.YtninoenmhcbonaaX0
import Derived.Test.YtninoenmhcbonaaX61
namespace Go.Proofs.Ytninoenmhcbonaa.X
open Go.RowKit Go.Proofs.YtninoenmhcbonaaW.PrintWords Go.Proofs.YtninoenmhcbonaaW.PrintLast Go.Proofs.YtninoenmhcbonaaW.PrintMore
attribute [local go_sem] max2_int min2_int max_two min_two max_three min_three max_four min_four
set_option linter.unusedVariables false
set_option linter.unusedSimpArgs false
set_option maxHeartbeats 8000000
set_option maxRecDepth 100000

/-! ### word_Encode: function 24 -/
mutual
def word_Encode.j0 : Nat → List Int → Int → Bool → Option (List Int × Int)
 | 0, _, _, _ => none
 | k + 1, x0, x1, x20 => if x20 = true then (some (([] : List Int), 2)) else (if 0 ≤ x1 then (if (x1 : Int).toNat ≤ 35184372088832 then (word_Encode.l0 k (List.replicate (x1 : Int).toNat 0) x0 (x0.length : Int) 0) else (none)) else (none))
def word_Encode.l0 : Nat → List Int → List Int → Int → Int → Option (List Int × Int)
 | 0, _, _, _, _ => none
 | k + 1, x6, x23, x24, x25 => if x25 < x24 then (if 0 ≤ x25 then (if x25 < (x23.length : Int) then (word_Encode.l1 k x6 x25 (rd x23 x25) x23 x24 x25 (x6.length : Int) 0) else (none)) else (none)) else (some (x6, 0))
def word_Encode.l1 : Nat → List Int → Int → Int → List Int → Int → Int → Int → Int → Option (List Int × Int)
 | 0, _, _, _, _, _, _, _, _ => none
 | k + 1, x6, x7, x8, x23, x24, x25, x31, x32 => if x32 < x31 then (if 0 ≤ x32 then (if x32 < (x6.length : Int) then (if 0 ≤ x7 then (word_Encode.l1 k (x6.set (x32 : Int).toNat (Go.bits .or .i64 (rd x6 x32) (shl .i64 (Go.bits .and .i64 (shr .i64 x8 x32) 1) x7))) x7 x8 x23 x24 x25 x31 (wrap64 (x32 + 1))) else (none)) else (none)) else (none)) else (word_Encode.l0 k x6 x23 x24 (wrap64 (x25 + 1)))
end
def word_Encode.f (k : Nat) (l0 : List Int) (a1 : Int) : Option (List Int × Int) := if (l0.length : Int) > 6 then (some (([] : List Int), 150)) else ((word_Longest.f k l0).bind fun t838 => (if a1 < t838 then (word_Encode.j0 k l0 a1 true) else (word_Encode.j0 k l0 a1 (decide (a1 > 64)))))
theorem word_Encode.mono_l : ∀ k, (∀ y0 y1 y2, LeO (word_Encode.j0 k y0 y1 y2) (word_Encode.j0 (k + 1) y0 y1 y2)) ∧ (∀ y0 y1 y2 y3, LeO (word_Encode.l0 k y0 y1 y2 y3) (word_Encode.l0 (k + 1) y0 y1 y2 y3)) ∧ (∀ y0 y1 y2 y3 y4 y5 y6 y7, LeO (word_Encode.l1 k y0 y1 y2 y3 y4 y5 y6 y7) (word_Encode.l1 (k + 1) y0 y1 y2 y3 y4 y5 y6 y7))
 | 0 => ⟨fun _ _ _ r h => by simp [word_Encode.j0] at h, fun _ _ _ _ r h => by simp [word_Encode.l0] at h, fun _ _ _ _ _ _ _ _ r h => by simp [word_Encode.l1] at h⟩
 | k + 1 => by
  obtain ⟨ih0, ih1, ih2⟩ := word_Encode.mono_l k; refine ⟨?_, ?_, ?_⟩
  ·intro y0 y1 y2
   unfold word_Encode.j0
   repeat' first | (with_reducible first | exact ih0 _ _ _ | exact ih1 _ _ _ _ | exact ih2 _ _ _ _ _ _ _ _ | exact word_Longest.mono _ _ | exact lA | apply lI | refine lB ?_ fun _ => ?_) | exact lN _ | apply lI | refine lB ?_ fun _ => ?_
  ·intro y0 y1 y2 y3
   unfold word_Encode.l0
   repeat' first | (with_reducible first | exact ih0 _ _ _ | exact ih1 _ _ _ _ | exact ih2 _ _ _ _ _ _ _ _ | exact word_Longest.mono _ _ | exact lA | apply lI | refine lB ?_ fun _ => ?_) | exact lN _ | apply lI | refine lB ?_ fun _ => ?_
  ·intro y0 y1 y2 y3 y4 y5 y6 y7
   unfold word_Encode.l1
   repeat' first | (with_reducible first | exact ih0 _ _ _ | exact ih1 _ _ _ _ | exact ih2 _ _ _ _ _ _ _ _ | exact word_Longest.mono _ _ | exact lA | apply lI | refine lB ?_ fun _ => ?_) | exact lN _ | apply lI | refine lB ?_ fun _ => ?_
theorem word_Encode.mono : ∀ a0 a1 k, LeO (word_Encode.f k a0 a1) (word_Encode.f (k + 1) a0 a1) := by
 intro a0 a1 k; obtain ⟨ih0, ih1, ih2⟩ := word_Encode.mono_l k
 unfold word_Encode.f
 repeat' first | (with_reducible first | exact ih0 _ _ _ | exact ih1 _ _ _ _ | exact ih2 _ _ _ _ _ _ _ _ | exact word_Longest.mono _ _ | exact lA | apply lI | refine lB ?_ fun _ => ?_) | exact lN _ | apply lI | refine lB ?_ fun _ => ?_
def word_Encode.T12 : Bool × List (List Nat × List Nat) := (true, [([], []), ([], []), ([0, 1], [0, 1]), ([2], [2]), ([], []), ([], []), ([4, 5], [4, 5]), ([6], [6]), ([], []), ([7, 8], [7, 8]), ([3, 9], [3, 9]), ([0, 1, 0, 1, 2, 3, 4, 5, 6, 7, 8, 9, 10], [0, 1]), ([11, 10, 0, 1, 2, 3, 4, 5, 6, 7, 8, 9, 10], [10, 11])])
def word_Encode.B12 : List Nat := [0, 0, 3, 7, 0, 0, 48, 112, 0, 496, 1023, 2047, 4095]
theorem word_Encode.tab12 : rtab .any (opsOf Try.f24 12) = word_Encode.T12 := by kernel_rfl
theorem word_Encode.bits12 : waitsOk word_Encode.T12.2 word_Encode.B12 = true := by kernel_rfl
theorem word_Encode.calls (k : Nat) (A0 : Option Addr) (c0 : Nat) (D : List Int) (W : Int) (r1 : List Int) (r2 : Int) (w : World) (aN : Kd.C (Kd.int .i64) w A0 D.length D) (aP : D.length ≤ c0) (h : word_Encode.f k D W = some (r1, r2)) :
  Calls Try.prog 24 #[.slice A0 D.length c0, .int .i64 W] w fun e w' => ∃ aQ : Value, e = .returned (.tuple #[aQ, .int .i64 r2]) ∧ Kd.R (Kd.int .i64) 3 w' w.heap.size (fun _ => True) aQ r1 ∧ Below w.heap.size w w' := by
 have av := aM aN; have aR := aM aP; clear aN aP; have HB := aM (Below.refl w.heap.size w); rw [word_Encode.f] at h; have H := h; clear h
 by_cases c3 : (D.length : Int) > 6
 ·rw [if_pos c3] at H; have aU := dT c3; have aV : decide (6 < D.length) = true := dT (by omega); clear c3; simp only [Option.some.injEq, Prod.mk.injEq] at H; obtain ⟨rfl, rfl⟩ := H
  go_enter Try.func24, Try.ntmps24
  go_wp2
  go_ret2
  exact ⟨_, eW, by first | exact Kd.R_nil _ _ _ _ _ | exact Kd.N_nil _ _ _ _ _ | exact Kd.V_nil _ _ _ _ _ | exact Kd.Q_nil _ _ _ _ _ | exact Kd.S_nil _ _ _ _ _, bO HB.out⟩
 ·rw [if_neg c3] at H; have aU := decide_eq_false c3; have aV : decide (6 < D.length) = false := decide_eq_false (by omega); clear c3; have aw := aM H; clear H
  go_enter Try.func24, Try.ntmps24
  go_upto_region 3 with (fail)
  go_cut [20] (fun a6 wc => ∃ (kq : Nat) (M : Bool), a6 = .bool M ∧ Aside0 (word_Encode.j0 kq D W M = some (r1, r2)) ∧ Aside0 (kq ≤ k) ∧ BA w wc)
  case first =>
   have H := aw.out; clear aw; replace H := Option.bind_eq_some_iff.mp H; obtain ⟨ag, aS, H⟩ := H; have A5 := aM aS; clear aS
   by_cases c6 : W < ag
   ·rw [if_pos c6] at H; have V := dT c6; clear c6
    (first | rw [V] | (simp only [i64_w, i32_w]; rw [V]) | skip)
    have H' := aM H; clear H
    go_wp2_with (first | ((with_reducible refine gate_callee (f := 50) rfl ?_); refine gL_ (some 15) Try.func50 #[.slice A0 D.length c0] ?_; (with_reducible refine (word_Longest.calls k _ _ D ag _ ?s1 aR.out A5.out).mono ?_); (case s1 => exact cB av HB); rintro e w7 ⟨rfl, hb⟩; refine ⟨_, rfl, ?_⟩; replace HB := hS0 HB hb; (try clear hb)))
    go_meet
    case rel => exact ⟨_, (true), sI, H', ⟨by first | omega | exact Nat.le_refl _⟩, bT0 HB⟩
   ·rw [if_neg c6] at H; have V := decide_eq_false c6; clear c6
    (first | rw [V] | (simp only [i64_w, i32_w]; rw [V]) | skip)
    have H' := aM H; clear H
    go_wp2_with (first | ((with_reducible refine gate_callee (f := 50) rfl ?_); refine gL_ (some 15) Try.func50 #[.slice A0 D.length c0] ?_; (with_reducible refine (word_Longest.calls k _ _ D ag _ ?s1 aR.out A5.out).mono ?_); (case s1 => exact cB av HB); rintro e w8 ⟨rfl, hb⟩; refine ⟨_, rfl, ?_⟩; replace HB := hS0 HB hb; (try clear hb)))
    go_meet
    case rel => exact ⟨_, (decide (W > 64)), sI, H', ⟨by first | omega | exact Nat.le_refl _⟩, bT0 HB⟩
  case rest =>
   clear aw
   obtain ⟨kq, M, rfl, HA, HJ3, HB⟩ := hcut; cases kq with
   | zero => exact absurd HA.out (by simp [word_Encode.j0])
   | succ aT =>
    have H := HA.out; clear HA; simp only [word_Encode.j0] at H
    by_cases c9 : M = true
    ·subst c9
     rw [if_pos rfl] at H; simp only [Option.some.injEq, Prod.mk.injEq] at H; obtain ⟨rfl, rfl⟩ := H
     go_wp2
     go_ret2
     exact ⟨_, eW, by first | exact Kd.R_nil _ _ _ _ _ | exact Kd.N_nil _ _ _ _ _ | exact Kd.V_nil _ _ _ _ _ | exact Kd.Q_nil _ _ _ _ _ | exact Kd.S_nil _ _ _ _ _, bO HB.out⟩
    ·replace c9 := Bool.eq_false_iff.mpr c9; subst c9
     rw [if_neg nF] at H
     by_cases ad : 0 ≤ W
     ·rw [if_pos ad] at H; have bb := eq_true ad; have bc := dT ad; clear ad
      by_cases ae : (W : Int).toNat ≤ 35184372088832
      ·rw [if_pos ae] at H; have bd := eq_true ae; have be := dT ae; clear ae; obtain ⟨aW, O⟩ : ∃ y_ : List Int, y_ = (List.replicate (W : Int).toNat 0) := ⟨_, rfl⟩
       first | replace H := rI O H | rw [← O] at H
       have aH := aM O; clear O; have H' := aM H; clear H
       go_wp2_with (first | ((with_reducible refine gate_dst (N := 22) rfl ?_); refine Kd.R_make (Kd.int .i64) _ 3 rfl (N := 22) rfl 24 _ _ rfl W rfl rfl Try.underlying24 (.int .i64 0) 8 info3 rfl (by decide) (by omega) 0 (ok := fun _ => True) (okp := fun _ => True) rfl (fun _ hk => hk) trivial (oT aO) (Nat.le_trans (Nat.mul_le_mul_right _ (oT aO : W.toNat ≤ 35184372088832)) (by omega)) (Below.refl _ _) (Nat.le_refl _) ?_; intro aX bp ab hb hg_ hnew_; clear hg_ hnew_; replace ab := nW aH ab; have aI := rW ab (bP0 HB); replace HB := hS0 HB hb; clear hb ab))
       go_loopg [25] aT (fun kq a8 w' => ∃ (G : List Int) (z : Int), a8 = .int .i64 z ∧ Aside0 (word_Encode.l0 kq G D (D.length : Int) z = some (r1, r2)) ∧ Aside0 (kq ≤ aT) ∧ RA (Kd.int .i64) 3 w' w aX G ∧ BA w w')
       case atStart => exact ⟨(aW), (0), sI, H', ⟨Nat.le_refl _⟩, rQ aI, bT0 HB⟩
       case round =>
        clear H'
        obtain ⟨G, z, rfl, HA, HK2, B, HB⟩ := hrel; cases gk with
        | zero => exact absurd HA.out (by simp [word_Encode.l0])
        | succ k2 =>
         have H := HA.out; clear HA; simp only [word_Encode.l0] at H
         by_cases Y : z < (D.length : Int)
         ·rw [if_pos Y] at H; have aJ := dT Y; clear Y
          by_cases al : 0 ≤ z
          ·rw [if_pos al] at H; have bf := dT al; clear al
           by_cases am : z < (D.length : Int)
           ·rw [if_pos am] at H; have bg := dT am; clear am; have H' := aM H; clear H; have ah : 0 ≤ (z : Int) := oT aO; have ai : z < (D.length : Int) := oT aO; obtain ⟨bh, aY, Z⟩ := Kd.at_int av.out z ah ai; cases aY; replace Z := cX HB Z; replace ah := eq_true ah; replace ai := eq_true ai; obtain ⟨aZ, a2, a3⟩ := sL B; subst a3
            go_wp2
            go_loopg [32] k2 (fun kq a9 w' => ∃ (F : List Int) (A : Int), a9 = .int .i64 A ∧ Aside0 (word_Encode.l1 kq F z (rd D z) D (D.length : Int) z (G.length : Int) A = some (r1, r2)) ∧ Aside0 (kq ≤ k2) ∧ RA (Kd.int .i64) 3 w' w (.slice aZ G.length a2) F ∧ BA w w')
            case atStart => exact ⟨(G), (0), sI, H', ⟨Nat.le_refl _⟩, rQ B, bT0 HB⟩
            case round =>
             clear H'
             obtain ⟨F, A, rfl, HA, HK3, B, HB⟩ := hrel; have E := (rR B).1; rw [E] at B
             (try simp only [E])
             cases gk with
             | zero => exact absurd HA.out (by simp [word_Encode.l1])
             | succ k3 =>
              have H := HA.out; clear HA; simp only [word_Encode.l1] at H
              by_cases aa : A < (G.length : Int)
              ·rw [if_pos aa] at H; have ac := dT aa
               (try (have c18b0hl6_3 := ac; rw [E] at c18b0hl6_3))
               clear aa
               by_cases an : 0 ≤ A
               ·rw [if_pos an] at H; have bi := dT an; clear an
                by_cases ao : A < (F.length : Int)
                ·rw [if_pos ao] at H; have aK := dT ao
                 (try (have c20b0hl6_3 := aK; rw [E] at c20b0hl6_3))
                 clear ao; have bj := eq_true (oT aO : 0 ≤ A); obtain ⟨I, P⟩ : ∃ j_ : Int, (shr .i64 (rd D z) A) = j_ := ⟨_, rfl⟩
                 first | rw [P] at H | simp only [P] at H
                 have ba : ((rd D z) / 2 ^ min A.toNat 64) = I := P; have hji22z : A ≤ 64 → ((rd D z) / 2 ^ A.toNat) = I := shr_small P
                 by_cases af : 0 ≤ z
                 ·rw [if_pos af] at H; have bk := eq_true af; have bm := dT af; clear af; obtain ⟨J, Q⟩ : ∃ j_ : Int, (shl .i64 (Go.bits .and .i64 (I) 1) z) = j_ := ⟨_, rfl⟩
                  first | rw [Q] at H | simp only [Q] at H
                  have ax : (IntKind.i64.wrap ((Go.bits .and .i64 (I) 1) * 2 ^ min z.toNat 64)) = J := Q; have hji24z : z ≤ 64 → (IntKind.i64.wrap ((Go.bits .and .i64 (I) 1) * 2 ^ z.toNat)) = J := shl_small Q; have hji24y : (wrap64 ((Go.bits .and .i64 (I) 1) * 2 ^ min z.toNat 64)) = J := (i64_w _).symm.trans ax
                  have hji24x : z ≤ 64 → (wrap64 ((Go.bits .and .i64 (I) 1) * 2 ^ z.toNat)) = J := fun h_ => (i64_w _).symm.trans (hji24z h_)
                  obtain ⟨a4, U⟩ : ∃ y_ : List Int, y_ = (F.set (A : Int).toNat (Go.bits .or .i64 (rd F A) (J))) := ⟨_, rfl⟩
                  first | replace H := rI U H | rw [← U] at H
                  have aL := aM U; clear U; have H' := aM H; clear H
                  try go_wp2
                  replace B := aM (Kd.R_drew B.out); replace HB := aM (below_drew1 HB.out); have aj : 0 ≤ (A : Int) := oT aO; have ak : A < (F.length : Int) := oT aO; obtain ⟨bn, a5, L⟩ := Kd.at_int (rR B).2.2 A aj ak; cases a5; replace aj := eq_true aj; replace ak := eq_true ak; have ay : 0 ≤ (A : Int) := oT aO; have az : (A : Int) < ((F.length : Int) : Int) := oT aO; obtain ⟨go25, bo, aA, aB, gl25, cl25, HG25⟩ := Kd.R_form B.out (by omega)
                  (first | cases aA | (injection aA with ea_ en_ ec_; (first | subst ea_ | (injection ea_ with ea_; subst ea_)); subst ec_; clear en_))
                  have GB25 := aM aB; have GG25 := aM HG25; clear aB gl25 HG25
                  (first | simp only [add_plain] at L | skip)
                  obtain ⟨aC, hf25_0⟩ := Kd.R_celln 0 B.out (A : Int) ay az; replace ay := eq_true ay; replace az := eq_true az; have HP27 := Kd.R_putn B.out (A : Int) (Go.bits .or .i64 (rd F A) (J)); rw [← aL.out] at HP27; have aD := aM HP27; clear HP27; refine start_ (n := 13) (S := fun w' => w'.cell? ⟨go25, (A).toNat, none⟩ = some (.int .i64 (rd F A))) (ds := [12]) (bl 13 0) (by kernel_rfl) rfl rfl (L) (fun hHeld => ?_); refine with_tabW word_Encode.tab12 word_Encode.bits12 (fun HT_ HW_ => ?_); generalize wr.drew = bq at B HB GG25 aD hf25_0 aC L hHeld ⊢; refine pu_ 0 35 (bl 13 1) HT_ ?_; refine pu_ 1 36 (bl 13 3) HT_ ?_; refine pu_ 2 37 (bl 13 7) HT_ ?_; refine pu_ 4 39 (bl 13 23) HT_ ?_; refine pu_ 5 40 (bl 13 55) HT_ ?_; refine pu_ 6 41 (bl 13 119) HT_ ?_; refine pu_ 7 42 (bl 13 247) HT_ ?_; refine pu_ 8 43 (bl 13 503) HT_ ?_; refine pu_ 9 44 (bl 13 1015) HT_ ?_; refine take_ (i := 3) (N := some 38) (v := ?_) (a' := ?_) (bl 13 1023) rfl rfl (take_ofW HT_.out HW_.out (by kernel_rfl)) (fun _ _ _ h => h) (Or.inl ⟨by rfl, ?_⟩) hHeld ?_ ?_; rotate_left
                  ·intro w' s0
                   go_simp
                   with_reducible rfl
                  rotate_left
                  ·simp only [Act.put, sA, sB, sC, i64_w, i32_w]
                   rfl
                  refine pu_ 10 45 (bl 13 2047) HT_ ?_; refine pu_ 11 46 (bl 13 4095) HT_ ?_; refine last_ (i := 12) (N := none) (bl 13 8191) rfl rfl (one_of HT_.out (by kernel_rfl)) (by decide) (fun K hK => ?_); refine skip_ (w1 := ?_) (by rfl) rfl ?_ ?_; rotate_left
                  ·go_simp
                   rfl
                  refine hK.out _ _ ?_; clear hK K; refine done_ (done_of HT_.out (by kernel_rfl)) ?_
                  try go_wp2
                  (try simp only [← E])
                  go_roundg k3
                  case measure => have := HJ3.out; have := HK2.out; have := HK3.out; omega
                  case rel => exact ⟨(a4), (wrap64 (A + 1)), sI, H', ⟨by have := HJ3.out; have := HK2.out; have := HK3.out; omega⟩, ⟨by (try simp only [E]); (with_reducible repeat (first | apply Kd.R_alloc | apply Kd.R_drewN | apply Kd.R_drew)); exact aD.out⟩, ⟨by repeat (first | (with_reducible first | exact HB.out | apply below_alloc | apply pw_below_drewN | apply below_drew1 | refine below_set ?_ GB25.out) | exact HB.out)⟩⟩
                 ·exact nX af H
                ·exact nX ao H
               ·exact nX an H
              ·rw [if_neg aa] at H; have ac := decide_eq_false aa
               (try (have c18b0hl6_3 := ac; rw [E] at c18b0hl6_3))
               clear aa; have H' := aM H; clear H
               go_wp2
               (try simp only [← E])
               go_roundg k3
               case measure => have := HJ3.out; have := HK2.out; have := HK3.out; omega
               case rel => exact ⟨(F), (wrap64 (z + 1)), sI, H', ⟨by have := HJ3.out; have := HK2.out; have := HK3.out; omega⟩, ⟨by (try simp only [E]); (with_reducible repeat (first | apply Kd.R_alloc | apply Kd.R_drewN | apply Kd.R_drew)); exact B.out⟩, bT0 HB⟩
           ·exact nX am H
          ·exact nX al H
         ·rw [if_neg Y] at H; have aJ := decide_eq_false Y; clear Y; simp only [Option.some.injEq, Prod.mk.injEq] at H; obtain ⟨rfl, rfl⟩ := H
          go_wp2
          go_ret2
          exact ⟨_, eW, rO B.out, bO HB.out⟩
      ·exact nX ae H
     ·exact nX ad H

end Go.Proofs.Ytninoenmhcbonaa.X
