/- What the functions of this seat compute, and that the program's calls come to just that: written by this session's own program out of the translation; no condition. -/
import Derived.Test.YtghfclgcgecgdaaX0
import Derived.Test.YtghfclgcgecgdaaX9
import Derived.Test.YtghfclgcgecgdaaX12
namespace Go.Proofs.Ytghfclgcgecgdaa.X
open Go.RowKit Go.Proofs.YtghfclgcgecgdaaW.PrintWords Go.Proofs.YtghfclgcgecgdaaW.PrintLast Go.Proofs.YtghfclgcgecgdaaW.PrintMore
attribute [local go_sem] max2_int min2_int max_two min_two max_three min_three max_four min_four   -- for this text's walks alone
set_option linter.unusedVariables false
set_option linter.unusedSimpArgs false

/-! ### row_Unpack: function 53 -/
mutual
def row_Unpack.j0 : Nat → List (S58) → Int → Bool → Option (List Int × Int)
 | 0, _, _, _ => none
 | k + 1, x0, x1, x18 => if x18 = true then (some (([] : List Int), 150)) else (if 0 ≤ x1 then (if (x0.length : Int) > (shl .i64 1 x1) then (some (([] : List Int), 3)) else (if 0 ≤ (shl .i64 1 x1) then (if (shl .i64 1 x1 : Int).toNat ≤ 35184372088832 then ((some (List.replicate (shl .i64 1 x1 : Int).toNat 0 : List Int)).bind fun y159 => (row_Unpack.l0 k x0 y159 (y159.length : Int) 0)) else (none)) else (none))) else (none))
def row_Unpack.l0 : Nat → List (S58) → List Int → Int → Int → Option (List Int × Int)
 | 0, _, _, _, _ => none
 | k + 1, x0, x7, x28, x29 => if x29 < x28 then ((row_At.f k x0 x29).bind fun bt162 => (if bt162.2 = true then (if 0 ≤ x29 then (if x29 < (x7.length : Int) then (row_Unpack.l0 k x0 (x7.set (x29 : Int).toNat bt162.1) x28 (wrap64 (x29 + 1))) else (none)) else (none)) else (some (([] : List Int), 3)))) else ((row_Pack.f k x7).bind fun bt165 => (if bt165.2 = 0 then ((api_Cube.f k bt165.1 x0).bind fun t169 => (if t169 = true then (some (x7, 0)) else (some (([] : List Int), 3)))) else (some (([] : List Int), 3))))
end
def row_Unpack.f (k : Nat) (l0 : List (S58)) (a1 : Int) : Option (List Int × Int) := if a1 < 0 then (row_Unpack.j0 k l0 a1 true) else (row_Unpack.j0 k l0 a1 (decide (a1 > 6)))
theorem row_Unpack.mono_l : ∀ k, (∀ y0 y1 y2, LeO (row_Unpack.j0 k y0 y1 y2) (row_Unpack.j0 (k + 1) y0 y1 y2)) ∧ (∀ y0 y1 y2 y3, LeO (row_Unpack.l0 k y0 y1 y2 y3) (row_Unpack.l0 (k + 1) y0 y1 y2 y3))
 | 0 => ⟨fun _ _ _ r h => by simp [row_Unpack.j0] at h, fun _ _ _ _ r h => by simp [row_Unpack.l0] at h⟩
 | k + 1 => by
  obtain ⟨ih0, ih1⟩ := row_Unpack.mono_l k; refine ⟨?_, ?_⟩
  ·intro y0 y1 y2
   unfold row_Unpack.j0
   repeat' first
   | (with_reducible exact ih0 _ _ _)
   | (with_reducible exact ih1 _ _ _ _)
   | (with_reducible exact api_Cube.mono _ _ _)
   | (with_reducible exact row_At.mono _ _ _)
   | (with_reducible exact row_Pack.mono _ _)
   | (with_reducible exact LeO.refl _)
   | (with_reducible exact LeO.none _)
   | (with_reducible refine LeO.ite ?_ ?_)
   | (with_reducible refine LeO.bind ?_ (fun _ => ?_))
   | exact LeO.none _
   | refine LeO.ite ?_ ?_
   | refine LeO.bind ?_ (fun _ => ?_)
  ·intro y0 y1 y2 y3
   unfold row_Unpack.l0
   repeat' first
   | (with_reducible exact ih0 _ _ _)
   | (with_reducible exact ih1 _ _ _ _)
   | (with_reducible exact api_Cube.mono _ _ _)
   | (with_reducible exact row_At.mono _ _ _)
   | (with_reducible exact row_Pack.mono _ _)
   | (with_reducible exact LeO.refl _)
   | (with_reducible exact LeO.none _)
   | (with_reducible refine LeO.ite ?_ ?_)
   | (with_reducible refine LeO.bind ?_ (fun _ => ?_))
   | exact LeO.none _
   | refine LeO.ite ?_ ?_
   | refine LeO.bind ?_ (fun _ => ?_)
theorem row_Unpack.mono : ∀ a0 a1 k, LeO (row_Unpack.f k a0 a1) (row_Unpack.f (k + 1) a0 a1) := by
 intro a0 a1 k; obtain ⟨ih0, ih1⟩ := row_Unpack.mono_l k
 unfold row_Unpack.f
 repeat' first
   | (with_reducible exact ih0 _ _ _)
   | (with_reducible exact ih1 _ _ _ _)
   | (with_reducible exact api_Cube.mono _ _ _)
   | (with_reducible exact row_At.mono _ _ _)
   | (with_reducible exact row_Pack.mono _ _)
   | (with_reducible exact LeO.refl _)
   | (with_reducible exact LeO.none _)
   | (with_reducible refine LeO.ite ?_ ?_)
   | (with_reducible refine LeO.bind ?_ (fun _ => ?_))
   | exact LeO.none _
   | refine LeO.ite ?_ ?_
   | refine LeO.bind ?_ (fun _ => ?_)
set_option maxHeartbeats 8000000 in
set_option maxRecDepth 100000 in
theorem row_Unpack.calls (k : Nat) (A0 : Option Addr) (c0 : Nat) (l0 : List (S58)) (a1 : Int) (r1 : List Int) (r2 : Int) (w : World) (hr0 : Kd.C k58 w A0 l0.length l0) (hc0 : l0.length ≤ c0) (h : row_Unpack.f k l0 a1 = some (r1, r2)) :
  Calls Try.prog 53 #[.slice A0 l0.length c0, .int .i64 a1] w fun e w' => ∃ v0_ : Value, e = .returned (.tuple #[v0_, .int .i64 r2]) ∧ Kd.R (Kd.int .i64) 3 w' w.heap.size (fun _ => True) v0_ r1 ∧ Below w.heap.size w w' := by
 have HR0 := Aside0.mk hr0; have HC0 := Aside0.mk hc0; clear hr0 hc0; have HB := Aside0.mk (Below.refl w.heap.size w); have H : (if a1 < 0 then (row_Unpack.j0 k l0 a1 true) else (row_Unpack.j0 k l0 a1 (decide (a1 > 6)))) = some (r1, r2) := h; clear h; have HC3 := Aside0.mk H; clear H
 go_enter Try.func53, Try.ntmps53
 go_upto_region 1 with (fail)
 go_cut [18] (fun v18 wc => ∃ (kq : Nat) (x18_2 : Bool), v18 = .bool x18_2 ∧ Aside0 (row_Unpack.j0 kq l0 a1 x18_2 = some (r1, r2)) ∧ Aside0 (kq ≤ k) ∧ Aside0 (Below w.heap.size w wc))
 case first =>
  have H := HC3.out; clear HC3
  by_cases c4 : a1 < 0
  ·rw [if_pos c4] at H; have c4b0 : decide (a1 < 0) = true := decide_eq_true c4; clear c4
   (first | rw [c4b0] | (simp only [i64_w, i32_w]; rw [c4b0]) | skip)
   have H' := Aside0.mk H; clear H
   go_wp2
   go_meet
   case rel => exact ⟨_, (true), (by first | rfl | (simp; done) | (simp [*]; done)), H', ⟨by first | omega | exact Nat.le_refl _⟩, ⟨bO HB.out⟩⟩
  ·rw [if_neg c4] at H; have c4b0 : decide (a1 < 0) = false := decide_eq_false c4; clear c4
   (first | rw [c4b0] | (simp only [i64_w, i32_w]; rw [c4b0]) | skip)
   have H' := Aside0.mk H; clear H
   go_wp2
   go_meet
   case rel => exact ⟨_, (decide (a1 > 6)), (by first | rfl | (simp; done) | (simp [*]; done)), H', ⟨by first | omega | exact Nat.le_refl _⟩, ⟨bO HB.out⟩⟩
 case rest =>
  clear HC3
  try clear p2
  try clear c4
  try clear c4b0
  obtain ⟨kq, x18_2, rfl, HA, HJ2, HB⟩ := hcut; cases kq with
  | zero => exact absurd HA.out (by simp [row_Unpack.j0])
  | succ kj2 =>
   have H := HA.out; clear HA; simp only [row_Unpack.j0] at H
   by_cases c5 : x18_2 = true
   ·subst c5
    have H1 : (some (([] : List Int), 150)) = some (r1, r2) := by rw [if_pos rfl] at H; exact H
    clear H; have H := H1; clear H1; simp only [Option.some.injEq, Prod.mk.injEq] at H; obtain ⟨rfl, rfl⟩ := H
    go_wp2
    go_ret2
    exact ⟨_, eW, by first | exact Kd.R_nil _ _ _ _ _ | exact Kd.N_nil _ _ _ _ _ | exact Kd.V_nil _ _ _ _ _ | exact Kd.Q_nil _ _ _ _ _ | exact Kd.S_nil _ _ _ _ _, bO HB.out⟩
   ·replace c5 := Bool.eq_false_iff.mpr c5; subst c5
    have H1 : (if 0 ≤ a1 then (if (l0.length : Int) > (shl .i64 1 a1) then (some (([] : List Int), 3)) else (if 0 ≤ (shl .i64 1 a1) then (if (shl .i64 1 a1 : Int).toNat ≤ 35184372088832 then ((some (List.replicate (shl .i64 1 a1 : Int).toNat 0 : List Int)).bind fun y159 => (row_Unpack.l0 kj2 l0 y159 (y159.length : Int) 0)) else (none)) else (none))) else (none)) = some (r1, r2) := by rw [if_neg (show ¬ (false = true) by decide)] at H; exact H
    clear H; have H := H1; clear H1
    by_cases c6 : 0 ≤ a1
    ·rw [if_pos c6] at H; have c6b0 := eq_true c6; have c6b1 : decide (0 ≤ a1) = true := decide_eq_true c6; clear c6; obtain ⟨ji7, hji7⟩ : ∃ j_ : Int, (shl .i64 1 a1) = j_ := ⟨_, rfl⟩
     replace H : (if (l0.length : Int) > (ji7) then (some (([] : List Int), 3)) else (if 0 ≤ (ji7) then (if (ji7 : Int).toNat ≤ 35184372088832 then ((some (List.replicate (ji7 : Int).toNat 0 : List Int)).bind fun y159 => (row_Unpack.l0 kj2 l0 y159 (y159.length : Int) 0)) else (none)) else (none))) = some (r1, r2) := by first | (rw [hji7] at H; exact H) | (simp only [hji7] at H ⊢; exact H)
     have hji7_ : (IntKind.i64.wrap (1 * 2 ^ min a1.toNat 64)) = ji7 := hji7; have hji7z : a1 ≤ 64 → (IntKind.i64.wrap (1 * 2 ^ a1.toNat)) = ji7 := shl_small hji7
     have hji7u : (IntKind.i64.wrap (2 ^ min a1.toNat 64)) = ji7 := by have h_ := hji7_; rw [Int.one_mul] at h_; exact h_
     have hji7v : a1 ≤ 64 → (IntKind.i64.wrap (2 ^ a1.toNat)) = ji7 := fun hle_ => by have h_ := hji7z hle_; rw [Int.one_mul] at h_; exact h_
     have hji7y : (wrap64 (1 * 2 ^ min a1.toNat 64)) = ji7 := (i64_w _).symm.trans hji7_
     have hji7x : a1 ≤ 64 → (wrap64 (1 * 2 ^ a1.toNat)) = ji7 := fun h_ => (i64_w _).symm.trans (hji7z h_)
     by_cases c8 : (l0.length : Int) > (ji7)
     ·rw [if_pos c8] at H; have c8b0 : decide ((ji7) < (l0.length : Int)) = true := decide_eq_true c8; clear c8; simp only [Option.some.injEq, Prod.mk.injEq] at H; obtain ⟨rfl, rfl⟩ := H
      go_wp2
      go_ret2
      exact ⟨_, by first | rfl | (simp [errW_none, errW_some] <;> rfl) | (simp only [← hji7]; first | rfl | (simp [errW_none, errW_some] <;> rfl)) | (simp [*, errW_none, errW_some] <;> rfl), by first | exact Kd.R_nil _ _ _ _ _ | exact Kd.N_nil _ _ _ _ _ | exact Kd.V_nil _ _ _ _ _ | exact Kd.Q_nil _ _ _ _ _ | exact Kd.S_nil _ _ _ _ _, bO HB.out⟩
     ·rw [if_neg c8] at H; have c8b0 : decide ((ji7) < (l0.length : Int)) = false := decide_eq_false c8; clear c8
      by_cases c9 : 0 ≤ (ji7)
      ·rw [if_pos c9] at H; have c9b0 := eq_true c9; have c9b1 : decide (0 ≤ (ji7)) = true := decide_eq_true c9; clear c9
       by_cases c10 : (ji7 : Int).toNat ≤ 35184372088832
       ·rw [if_pos c10] at H; have c10b0 := eq_true c10; have c10b1 : decide ((ji7 : Int).toNat ≤ 35184372088832) = true := decide_eq_true c10; clear c10; obtain ⟨y159, hy159⟩ : ∃ y_ : List Int, y_ = (List.replicate (ji7 : Int).toNat 0) := ⟨_, rfl⟩
        replace H : (row_Unpack.l0 kj2 l0 y159 (y159.length : Int) 0) = some (r1, r2) := by first | (rw [hy159]; with_reducible exact H) | (have H2_ := (Option.bind_some _ _).symm.trans H; rw [hy159]; with_reducible exact H2_) | (have H2_ := (Option.bind_some _ _).symm.trans H; with_reducible exact H2_) | with_reducible exact H | (rw [hy159]; exact H) | exact H
        have Ny159 := Aside0.mk hy159; clear hy159; have H' := Aside0.mk H; clear H
        go_wp2_with (first | ((with_reducible refine gate_dst (N := 26) rfl ?_); refine Kd.R_make (Kd.int .i64) _ 3 rfl (N := 26) rfl 29 _ _ rfl ji7 rfl rfl Try.underlying29 (.int .i64 0) 8 info3 rfl (by decide) (by omega) 0 (ok := fun _ => True) (okp := fun _ => True) rfl (fun _ hk => hk) trivial (of_decide_eq_true aO) (Nat.le_trans (Nat.mul_le_mul_right _ (of_decide_eq_true aO : ji7.toNat ≤ 35184372088832)) (by omega)) (Below.refl _ _) (Nat.le_refl _) ?_; intro v160 w11 ho12 hb hg_ hnew_; clear hg_ hnew_; (first | rw [← Ny159.out] at ho12 | (simp only [Int.reduceToNat] at ho12; rw [← Ny159.out] at ho12)); have HO161 := rW ho12 (bO HB.out); replace HB := hS0 HB hb; clear hb ho12; obtain ⟨Ao13, co13, eo13⟩ := Kd.R_slice HO161.out; subst eo13))
        go_loopg [29] kj2 (fun kq v29 w' => ∃ (x7_2 : List Int) (x29_2 : Int), v29 = .int .i64 x29_2 ∧ Aside0 (row_Unpack.l0 kq l0 x7_2 (y159.length : Int) x29_2 = some (r1, r2)) ∧ Aside0 (kq ≤ kj2) ∧ Aside0 (Kd.R (Kd.int .i64) 3 w' w.heap.size (fun _ => True) (.slice Ao13 y159.length co13) x7_2) ∧ Aside0 (Below w.heap.size w w'))
        case atStart => exact ⟨(y159), (0), (by first | rfl | (simp; done) | (simp [*]; done)), H', ⟨Nat.le_refl _⟩, ⟨rO HO161.out⟩, ⟨bO HB.out⟩⟩
        case round =>
         clear H'
         try clear c1
         try clear p2
         try clear c4
         try clear c4b0
         try clear c5
         try clear c6
         try clear c6b0
         try clear c6b1
         try clear p6
         try clear c8
         try clear c8b0
         try clear c9
         try clear c9b0
         try clear c9b1
         try clear c10
         try clear c10b0
         try clear c10b1
         try clear p2
         obtain ⟨x7_2, x29_2, rfl, HA, HK2, HO_7, HB⟩ := hrel; have hl7_2 := (Kd.R_reads' HO_7.out).1; rw [hl7_2] at HO_7
         (try simp only [hl7_2])
         cases gk with
         | zero => exact absurd HA.out (by simp [row_Unpack.l0])
         | succ k2 =>
          have H := HA.out; clear HA; simp only [row_Unpack.l0] at H
          by_cases c14 : x29_2 < (y159.length : Int)
          ·rw [if_pos c14] at H; have c14b0 : decide (x29_2 < (y159.length : Int)) = true := decide_eq_true c14
           (try (have c14b0hl7_2 := c14b0; rw [hl7_2] at c14b0hl7_2))
           clear c14; replace H := Option.bind_eq_some_iff.mp H; obtain ⟨⟨t162, t163⟩, A150, H⟩ := H; replace H : (if t163 = true then (if 0 ≤ x29_2 then (if x29_2 < (x7_2.length : Int) then (row_Unpack.l0 k2 l0 (x7_2.set (x29_2 : Int).toNat t162) (y159.length : Int) (wrap64 (x29_2 + 1))) else (none)) else (none)) else (some (([] : List Int), 3))) = some (r1, r2) := H; have A15 := Aside0.mk A150; clear A150
           by_cases c16 : t163 = true
           ·subst c16
            have H1 : (if 0 ≤ x29_2 then (if x29_2 < (x7_2.length : Int) then (row_Unpack.l0 k2 l0 (x7_2.set (x29_2 : Int).toNat t162) (y159.length : Int) (wrap64 (x29_2 + 1))) else (none)) else (none)) = some (r1, r2) := by rw [if_pos rfl] at H; exact H
            clear H; have H := H1; clear H1
            by_cases c17 : 0 ≤ x29_2
            ·rw [if_pos c17] at H; have c17b0 : decide (0 ≤ x29_2) = true := decide_eq_true c17; clear c17
             by_cases c18 : x29_2 < (x7_2.length : Int)
             ·rw [if_pos c18] at H; have c18b0 : decide (x29_2 < (x7_2.length : Int)) = true := decide_eq_true c18
              (try (have c18b0hl7_2 := c18b0; rw [hl7_2] at c18b0hl7_2))
              clear c18; obtain ⟨y164, hy164⟩ : ∃ y_ : List Int, y_ = (x7_2.set (x29_2 : Int).toNat t162) := ⟨_, rfl⟩
              replace H : (row_Unpack.l0 k2 l0 y164 (y159.length : Int) (wrap64 (x29_2 + 1))) = some (r1, r2) := by first | (rw [hy164]; with_reducible exact H) | (have H2_ := (Option.bind_some _ _).symm.trans H; rw [hy164]; with_reducible exact H2_) | (have H2_ := (Option.bind_some _ _).symm.trans H; with_reducible exact H2_) | with_reducible exact H | (rw [hy164]; exact H) | exact H
              have Ny164 := Aside0.mk hy164; clear hy164; have H' := Aside0.mk H; clear H
              go_wp2_with (first | ((with_reducible refine gate_callee (f := 47) rfl ?_); refine goesL_ (some 35) rfl rfl Try.func47 (by kernel_rfl) rfl #[.slice A0 l0.length c0, .int .i64 x29_2] rfl mO ?_; (with_reducible refine (row_At.calls k2 _ _ l0 x29_2 t162 true _ ?s1 ?s2 A15.out).mono ?_); (case s1 => exact cB HR0 HB); (case s2 => exact HC0.out); rintro e w20 ⟨rfl, hb⟩; refine ⟨_, rfl, ?_⟩; replace HO_7 := rB HO_7 hb; replace HB := hS0 HB hb; (try clear hb); (try clear hb2); (try clear hk); (try clear hi); have p19 : 0 ≤ (x29_2 : Int) := of_decide_eq_true aO; have q19 : (x29_2 : Int) < ((x7_2.length : Int) : Int) := of_decide_eq_true aO; obtain ⟨go19, co19, eo19, gb19, gl19, cl19, HG19⟩ := Kd.R_form HO_7.out (by omega); (first | cases eo19 | (injection eo19 with ea_ en_ ec_; (first | subst ea_ | (injection ea_ with ea_; subst ea_)); subst ec_; clear en_)); have GB19 := Aside0.mk gb19; have GG19 := Aside0.mk HG19; clear gb19 gl19 HG19; obtain ⟨hx19_0, hf19_0⟩ := Kd.R_celln 0 HO_7.out (x29_2 : Int) p19 q19; replace p19 := eq_true p19; replace q19 := eq_true q19; obtain ⟨hy21_, hz21_⟩ := Kd.R_celln 0 HO_7.out (x29_2 : Int) (of_decide_eq_true aO) (of_decide_eq_true aO); have HP21 := Kd.R_putg HO_7.out (x29_2 : Int) t162) | ((with_reducible refine gate_store (t := 3) (p := 43) rfl ?_); refine store_event (t := 3) (p := 43) (v := ?vo_w22) (w1 := (w20.setCell ⟨go19, (x29_2 : Int).toNat, none⟩ (.int .i64 t162))) ?hg ?ho ?hn ?hr ?_; (case ho => rfl); (case hg => rfl); (case hn => rfl); (case hr => first | (go_simp; done) | (go_simp; rfl)); intro w22 hw; have hg : w20.grownBy w22 (some go19) := (by rw [hw]; exact HP21.2); have hp_ : Kd.R (Kd.int .i64) 3 w22 w.heap.size (fun _ => True) (.slice (some ⟨go19, 0, none⟩) x7_2.length co13) y164 := (by rw [hw, Ny164.out]; exact HP21.1); clear HP21; replace HO_7 := Aside0.mk (hp_); replace HB := Aside0.mk ((by rw [hw]; exact below_set (HB.out) GB19.out : Below w.heap.size w w22)); clear hg hw hp_))
              (try simp only [← hl7_2])
              go_roundg k2
              case measure => have := HJ2.out; have := HK2.out; omega
              case rel => exact ⟨(y164), (wrap64 (x29_2 + 1)), (by first | rfl | (simp; done) | (simp [*]; done)), H', ⟨by have := HJ2.out; have := HK2.out; omega⟩, ⟨by (try simp only [hl7_2]); (with_reducible repeat (first | apply Kd.R_alloc | apply Kd.R_drewN | apply Kd.R_drew)); exact HO_7.out⟩, ⟨bO HB.out⟩⟩
             ·rw [if_neg c18] at H; exact absurd H (by simp)
            ·rw [if_neg c17] at H; exact absurd H (by simp)
           ·replace c16 := Bool.eq_false_iff.mpr c16; subst c16
            have H1 : (some (([] : List Int), 3)) = some (r1, r2) := by rw [if_neg (show ¬ (false = true) by decide)] at H; exact H
            clear H; have H := H1; clear H1; simp only [Option.some.injEq, Prod.mk.injEq] at H; obtain ⟨rfl, rfl⟩ := H
            go_wp2_with (first | ((with_reducible refine gate_callee (f := 47) rfl ?_); refine goesL_ (some 35) rfl rfl Try.func47 (by kernel_rfl) rfl #[.slice A0 l0.length c0, .int .i64 x29_2] rfl mO ?_; (with_reducible refine (row_At.calls k2 _ _ l0 x29_2 t162 false _ ?s1 ?s2 A15.out).mono ?_); (case s1 => exact cB HR0 HB); (case s2 => exact HC0.out); rintro e w23 ⟨rfl, hb⟩; refine ⟨_, rfl, ?_⟩; replace HO_7 := rB HO_7 hb; replace HB := hS0 HB hb; (try clear hb); (try clear hb2); (try clear hk); (try clear hi)))
            go_ret2
            exact ⟨_, by first | rfl | (simp [errW_none, errW_some] <;> rfl) | (simp only [← hji7]; first | rfl | (simp [errW_none, errW_some] <;> rfl)) | (simp [*, errW_none, errW_some] <;> rfl), by first | exact Kd.R_nil _ _ _ _ _ | exact Kd.N_nil _ _ _ _ _ | exact Kd.V_nil _ _ _ _ _ | exact Kd.Q_nil _ _ _ _ _ | exact Kd.S_nil _ _ _ _ _, bO HB.out⟩
          ·rw [if_neg c14] at H; have c14b0 : decide (x29_2 < (y159.length : Int)) = false := decide_eq_false c14
           (try (have c14b0hl7_2 := c14b0; rw [hl7_2] at c14b0hl7_2))
           clear c14; replace H := Option.bind_eq_some_iff.mp H; obtain ⟨⟨t165, t166⟩, A240, H⟩ := H; replace H : (if t166 = 0 then ((api_Cube.f k2 t165 l0).bind fun t169 => (if t169 = true then (some (x7_2, 0)) else (some (([] : List Int), 3)))) else (some (([] : List Int), 3))) = some (r1, r2) := H; have A24 := Aside0.mk A240; clear A240
           by_cases c25 : t166 = 0
           ·rw [if_pos c25] at H; have c25b0 : (t166 == 0) = true := beq_iff_eq.mpr c25; have c25b1 : (t166 != 0) = false := bne_eq_false_iff_eq.mpr c25; clear c25; replace H := Option.bind_eq_some_iff.mp H; obtain ⟨t169, A260, H⟩ := H; replace H : (if t169 = true then (some (x7_2, 0)) else (some (([] : List Int), 3))) = some (r1, r2) := H; have A26 := Aside0.mk A260; clear A260
            by_cases c27 : t169 = true
            ·subst c27
             have H1 : (some (x7_2, 0)) = some (r1, r2) := by rw [if_pos rfl] at H; exact H
             clear H; have H := H1; clear H1; simp only [Option.some.injEq, Prod.mk.injEq] at H; obtain ⟨rfl, rfl⟩ := H
             go_wp2_with (first | ((with_reducible refine gate_callee (f := 36) rfl ?_); refine goesL_ (some 47) rfl rfl Try.func36 (by kernel_rfl) rfl #[.slice Ao13 x7_2.length co13] rfl mO ?_; (with_reducible refine (row_Pack.calls k2 _ _ x7_2 t165 t166 _ ?s1 ?s2 A24.out).mono ?_); (case s1 => exact cO (Kd.R_reads' HO_7.out).2.2); (case s2 => exact (Kd.R_reads' HO_7.out).2.1); rintro e w28 ⟨v167, rfl, ho0, hb⟩; refine ⟨_, rfl, ?_⟩; replace HO_7 := rB HO_7 hb; have HO168 := rW ho0 (bO HB.out); replace HB := hS0 HB hb; (try clear hb); (try clear hb2); (try clear hk); (try clear hi); (try clear ho0); obtain ⟨Ao29, co29, eo29⟩ := Kd.R_slice HO168.out; subst eo29) | (go_at_call 52; (with_reducible refine (api_Cube.calls k2 _ _ t165 _ _ l0 true _ ?s1 ?s2 ?s3 ?s4 A26.out).mono ?_); (case s1 => exact cO (Kd.R_reads' HO168.out).2.2); (case s2 => exact (Kd.R_reads' HO168.out).2.1); (case s3 => exact cB HR0 HB); (case s4 => exact HC0.out); rintro e w' ⟨rfl, ⟨nd, rfl⟩⟩))
             go_ret2
             exact ⟨_, by first | rfl | (simp [errW_none, errW_some] <;> rfl) | (simp only [← hji7]; first | rfl | (simp [errW_none, errW_some] <;> rfl)) | (simp [*, errW_none, errW_some] <;> rfl), rO HO_7.out, bO HB.out⟩
            ·replace c27 := Bool.eq_false_iff.mpr c27; subst c27
             have H1 : (some (([] : List Int), 3)) = some (r1, r2) := by rw [if_neg (show ¬ (false = true) by decide)] at H; exact H
             clear H; have H := H1; clear H1; simp only [Option.some.injEq, Prod.mk.injEq] at H; obtain ⟨rfl, rfl⟩ := H
             go_wp2_with (first | ((with_reducible refine gate_callee (f := 36) rfl ?_); refine goesL_ (some 47) rfl rfl Try.func36 (by kernel_rfl) rfl #[.slice Ao13 x7_2.length co13] rfl mO ?_; (with_reducible refine (row_Pack.calls k2 _ _ x7_2 t165 t166 _ ?s1 ?s2 A24.out).mono ?_); (case s1 => exact cO (Kd.R_reads' HO_7.out).2.2); (case s2 => exact (Kd.R_reads' HO_7.out).2.1); rintro e w30 ⟨v167, rfl, ho0, hb⟩; refine ⟨_, rfl, ?_⟩; replace HO_7 := rB HO_7 hb; have HO168 := rW ho0 (bO HB.out); replace HB := hS0 HB hb; (try clear hb); (try clear hb2); (try clear hk); (try clear hi); (try clear ho0); obtain ⟨Ao31, co31, eo31⟩ := Kd.R_slice HO168.out; subst eo31) | (go_at_call 52; (with_reducible refine (api_Cube.calls k2 _ _ t165 _ _ l0 false _ ?s1 ?s2 ?s3 ?s4 A26.out).mono ?_); (case s1 => exact cO (Kd.R_reads' HO168.out).2.2); (case s2 => exact (Kd.R_reads' HO168.out).2.1); (case s3 => exact cB HR0 HB); (case s4 => exact HC0.out); rintro e w' ⟨rfl, ⟨nd, rfl⟩⟩))
             go_ret2
             exact ⟨_, by first | rfl | (simp [errW_none, errW_some] <;> rfl) | (simp only [← hji7]; first | rfl | (simp [errW_none, errW_some] <;> rfl)) | (simp [*, errW_none, errW_some] <;> rfl), by first | exact Kd.R_nil _ _ _ _ _ | exact Kd.N_nil _ _ _ _ _ | exact Kd.V_nil _ _ _ _ _ | exact Kd.Q_nil _ _ _ _ _ | exact Kd.S_nil _ _ _ _ _, bO HB.out⟩
           ·rw [if_neg c25] at H; have c25b0 : (t166 == 0) = false := beq_eq_false_iff_ne.mpr c25; have c25b1 : (t166 != 0) = true := bne_iff_ne.mpr c25; simp only [Option.some.injEq, Prod.mk.injEq] at H; obtain ⟨rfl, rfl⟩ := H
            go_wp2_with (first | ((with_reducible refine gate_callee (f := 36) rfl ?_); refine goesL_ (some 47) rfl rfl Try.func36 (by kernel_rfl) rfl #[.slice Ao13 x7_2.length co13] rfl mO ?_; (with_reducible refine (row_Pack.calls k2 _ _ x7_2 t165 t166 _ ?s1 ?s2 A24.out).mono ?_); (case s1 => exact cO (Kd.R_reads' HO_7.out).2.2); (case s2 => exact (Kd.R_reads' HO_7.out).2.1); rintro e w32 ⟨v167, rfl, ho0, hb⟩; refine ⟨_, rfl, ?_⟩; replace HO_7 := rB HO_7 hb; have HO168 := rW ho0 (bO HB.out); replace HB := hS0 HB hb; (try clear hb); (try clear hb2); (try clear hk); (try clear hi); (try clear ho0)))
            go_ret2
            exact ⟨_, by first | rfl | (simp [errW_none, errW_some] <;> rfl) | (simp only [← hji7]; first | rfl | (simp [errW_none, errW_some] <;> rfl)) | (simp [*, errW_none, errW_some] <;> rfl), by first | exact Kd.R_nil _ _ _ _ _ | exact Kd.N_nil _ _ _ _ _ | exact Kd.V_nil _ _ _ _ _ | exact Kd.Q_nil _ _ _ _ _ | exact Kd.S_nil _ _ _ _ _, bO HB.out⟩
       ·rw [if_neg c10] at H; exact absurd H (by simp)
      ·rw [if_neg c9] at H; exact absurd H (by simp)
    ·rw [if_neg c6] at H; exact absurd H (by simp)

end Go.Proofs.Ytghfclgcgecgdaa.X
