/- Functions of the seat, printed, and that the program's calls come to them; no condition. -/
import Derived.Test.YtninoenmhcbonaaX0
import Derived.Test.YtninoenmhcbonaaX24
namespace Go.Proofs.Ytninoenmhcbonaa.X
open Go.RowKit Go.Proofs.YtninoenmhcbonaaW.PrintWords Go.Proofs.YtninoenmhcbonaaW.PrintLast Go.Proofs.YtninoenmhcbonaaW.PrintMore
attribute [local go_sem] max2_int min2_int max_two min_two max_three min_three max_four min_four
set_option linter.unusedVariables false
set_option linter.unusedSimpArgs false
set_option maxHeartbeats 8000000
set_option maxRecDepth 100000

def Foc.l0 : Nat → Int → List Int → Int → Option (Bool)
 | 0, _, _, _ => none
 | k + 1, x2, x7, x9 => if x9 < (x7.length : Int) then (if 0 ≤ x9 then (if (rd x7 x9) ≥ x2 then (some false) else (Foc.l0 k x2 x7 (wrap64 (x9 + 1)))) else (none)) else (some true)
def Foc.f (k : Nat) (l0 : List (S73)) (a1 : Int) (a2 : Int) : Option (Bool) := (Fpb.f k l0 a1).bind fun bt352 => (if bt352.2 = 0 then (Foc.l0 k a2 bt352.1 0) else (some false))
theorem Foc.mono_l : ∀ k, (∀ y0 y1 y2, LeO (Foc.l0 k y0 y1 y2) (Foc.l0 (k + 1) y0 y1 y2))
 | 0 => fun _ _ _ r h => by simp [Foc.l0] at h
 | k + 1 => by
  have ih0 := Foc.mono_l k
  ·intro y0 y1 y2
   unfold Foc.l0
   repeat' first | (with_reducible first | exact ih0 _ _ _ | exact Fpb.mono _ _ _ | exact lA | apply lI | refine lB ?_ fun _ => ?_) | exact lN _ | apply lI | refine lB ?_ fun _ => ?_
theorem Foc.mono : ∀ a0 a1 a2 k, LeO (Foc.f k a0 a1 a2) (Foc.f (k + 1) a0 a1 a2) := by
 intro a0 a1 a2 k; have ih0 := Foc.mono_l k
 unfold Foc.f
 repeat' first | (with_reducible first | exact ih0 _ _ _ | exact Fpb.mono _ _ _ | exact lA | apply lI | refine lB ?_ fun _ => ?_) | exact lN _ | apply lI | refine lB ?_ fun _ => ?_
theorem Foc.calls (k : Nat) (W : Option Addr) (Y : Nat) (F : List (S73)) (M : Int) (Q : Int) (r : Bool) (w : World) (ab : Kd.C k73 w W F.length F) (ac : F.length ≤ Y) (h : Foc.f k F M Q = some r) :
  Calls Try.prog 35 #[.slice W F.length Y, .int .i64 M, .int .i64 Q] w fun e w' => e = .returned (.bool r) ∧ Below w.heap.size w w' := by
 have ad := aM ab; have ae := aM ac; clear ab ac; have HB := aM (Below.refl w.heap.size w); rw [Foc.f] at h; have H := h; clear h; replace H := Option.bind_eq_some_iff.mp H; obtain ⟨⟨A, G⟩, af, H⟩ := H; replace H : (if G = 0 then (Foc.l0 k Q A 0) else (some false)) = some r := H; have A4 := aM af; clear af
 apply iB H <;> clear H <;> intro U H
 ·obtain ⟨ag, ah⟩ := bq U; clear U; have R := aM H; clear H
  go_enter Try.func35, Try.ntmps35
  go_wp2_with (first | ((with_reducible refine gate_callee (f := 36) rfl ?_); refine gL_ (some 13) Try.func36 #[.slice W F.length Y, .int .i64 M] ?_; (with_reducible refine (Fpb.calls k _ _ F M A G _ ?s1 ae.out A4.out).mono ?_); (case s1 => exact cO ad.out); rintro e w6 ⟨V, rfl, I, hb⟩; refine ⟨_, rfl, ?_⟩; have L := rW I (bP0 HB); replace HB := hS0 HB hb))
  go_loopg [9] k (fun kq v9 w' => ∃ (z : Int), v9 = .int .i64 z ∧ Aside0 (Foc.l0 kq Q A z = some r) ∧ Aside0 (kq ≤ k) ∧ RA (Kd.int .i64) 3 w' w V A ∧ BA w w')
  case atStart => exact ⟨(0), sI, R, ⟨Nat.le_refl _⟩, rQ L, bT0 HB⟩
  case round =>
   clear R
   obtain ⟨z, rfl, HA, ak, E, HB⟩ := hrel; cases gk with
   | zero => exact absurd HA.out (by simp [Foc.l0])
   | succ k1 =>
    have H := HA.out; clear HA; simp only [Foc.l0] at H
    apply iB H <;> clear H <;> intro N H
    ·have ai := dT N; clear N
     apply iN H; clear H; intro Z H; have ap := dT Z; clear Z
     apply iB H <;> clear H <;> intro O H
     ·have aj := dT O; clear O; obtain rfl := Option.some.inj H; obtain ⟨aq, ar, rfl⟩ := sL E; obtain ⟨⟨aa, J, P⟩, B, D⟩ := xAt (Kd.at_int (rR E).2.2) z; cases J
      go_wp2
      go_ret
      exact ⟨eW, bO HB.out⟩
     ·have aj := decide_eq_false O; clear O; have R := aM H; clear H; obtain ⟨au, av, rfl⟩ := sL E; obtain ⟨⟨aa, J, P⟩, B, D⟩ := xAt (Kd.at_int (rR E).2.2) z; cases J
      go_wp2
      go_roundg k1
      case measure => have := ak.out; omega
      case rel => exact ⟨(wrap64 (z + 1)), sI, R, ⟨by have := ak.out; omega⟩, rQ E, bT0 HB⟩
    ·have ai := decide_eq_false N; clear N; obtain rfl := Option.some.inj H; obtain ⟨aw, ax, rfl⟩ := sL E
     go_wp2
     go_ret
     exact ⟨eW, bO HB.out⟩
 ·obtain ⟨ag, ah⟩ := bn U; obtain rfl := Option.some.inj H
  go_enter Try.func35, Try.ntmps35
  go_wp2_with (first | ((with_reducible refine gate_callee (f := 36) rfl ?_); refine gL_ (some 13) Try.func36 #[.slice W F.length Y, .int .i64 M] ?_; (with_reducible refine (Fpb.calls k _ _ F M A G _ ?s1 ae.out A4.out).mono ?_); (case s1 => exact cO ad.out); rintro e ay ⟨V, rfl, I, hb⟩; refine ⟨_, rfl, ?_⟩; have L := rW I (bP0 HB); replace HB := hS0 HB hb))
  go_ret
  exact ⟨eW, bO HB.out⟩
mutual
def Fra.j0 : Nat → Int → Bool → List ByteArray → List Bool → List Int → List (S73) → Option (List ByteArray × List Bool × (List (List Int)) × Bool)
 | 0, _, _, _, _, _, _ => none
 | k + 1, x4, x44, x358000, x358001, x358002, x358003 => if x44 = true then (some (([] : List ByteArray), ([] : List Bool), ([] : List (List Int)), false)) else (Fra.l0 k x4 0 x358000 x358001 x358002 x358003)
def Fra.l0 : Nat → Int → Int → List ByteArray → List Bool → List Int → List (S73) → Option (List ByteArray × List Bool × (List (List Int)) × Bool)
 | 0, _, _, _, _, _, _ => none
 | k + 1, x4, x5, x358000, x358001, x358002, x358003 => if x5 < x4 then (if 0 ≤ x5 then (if x5 < (x358002.length : Int) then (if 0 ≤ (wrap64 (x5 + 1)) then (if (wrap64 (x5 + 1)) < (x358002.length : Int) then (if (rd x358002 x5) > (rd x358002 (wrap64 (x5 + 1))) then (some (([] : List ByteArray), ([] : List Bool), ([] : List (List Int)), false)) else (Fra.l0 k x4 (wrap64 (x5 + 1)) x358000 x358001 x358002 x358003)) else (none)) else (none)) else (none)) else (none)) else ((some (([] : List ByteArray) : List ByteArray)).bind fun y364 => (if y364.length + x358000.length < 8796093022208 then ((some (([] : List Bool) : List Bool)).bind fun y370 => (if y370.length + x358001.length < 140737488355328 then (Fra.l1 k x4 0 x358000 x358001 x358002 x358003 (y364 ++ x358000) (y370 ++ x358001) ([] : List (List Int))) else (none))) else (none)))
def Fra.l1 : Nat → Int → Int → List ByteArray → List Bool → List Int → List (S73) → List ByteArray → List Bool → List (List Int) → Option (List ByteArray × List Bool × (List (List Int)) × Bool)
 | 0, _, _, _, _, _, _, _, _, _ => none
 | k + 1, x4, x7, x358000, x358001, x358002, x358003, x377000, x377001, x377002 => if x7 < x4 then (if 0 ≤ x7 then (if x7 < (x358002.length : Int) then (if 0 ≤ (wrap64 (x7 + 1)) then (if (wrap64 (x7 + 1)) < (x358002.length : Int) then (if 0 ≤ (rd x358002 x7) then (if (rd x358002 x7) ≤ (rd x358002 (wrap64 (x7 + 1))) then (if (rd x358002 (wrap64 (x7 + 1))) ≤ (x358003.length : Int) then ((some ((x358003.take ((rd x358002 (wrap64 (x7 + 1))) : Int).toNat).drop ((rd x358002 x7) : Int).toNat : List (S73))).bind fun y379 => (if (y379.length : Int) > 32 then (some (([] : List ByteArray), ([] : List Bool), ([] : List (List Int)), false)) else ((Foc.f k y379 (x358000.length : Int) x4).bind fun t383 => (if t383 = true then ((Fpb.f k y379 (x358000.length : Int)).bind fun bt384 => (if x377002.length < 5864062014805 then (Fra.l1 k x4 (wrap64 (x7 + 1)) x358000 x358001 x358002 x358003 x377000 x377001 (x377002 ++ [bt384.1])) else (none))) else (some (([] : List ByteArray), ([] : List Bool), ([] : List (List Int)), false)))))) else (none)) else (none)) else (none)) else (none)) else (none)) else (none)) else (none)) else (some (x377000, x377001, x377002, true))
end
def Fra.f (k : Nat) (l0_0 : List ByteArray) (l0_1 : List Bool) (l0_2 : List Int) (l0_3 : List (S73)) : Option (List ByteArray × List Bool × (List (List Int)) × Bool) := (Fqb.f k l0_0 (l0_1.length : Int)).bind fun t359 => (if t359 = true then (if (l0_2.length : Int) = (wrap64 ((l0_1.length : Int) + 1)) then (if 0 < (l0_2.length : Int) then (if (rd l0_2 0) = 0 then (if 0 ≤ (l0_1.length : Int) then (if (l0_1.length : Int) < (l0_2.length : Int) then (Fra.j0 k (l0_1.length : Int) ((rd l0_2 (l0_1.length : Int)) != (l0_3.length : Int)) l0_0 l0_1 l0_2 l0_3) else (none)) else (none)) else (Fra.j0 k (l0_1.length : Int) true l0_0 l0_1 l0_2 l0_3)) else (none)) else (Fra.j0 k (l0_1.length : Int) true l0_0 l0_1 l0_2 l0_3)) else (Fra.j0 k (l0_1.length : Int) true l0_0 l0_1 l0_2 l0_3))
theorem Fra.mono_l : ∀ k, (∀ y0 y1 y2 y3 y4 y5, LeO (Fra.j0 k y0 y1 y2 y3 y4 y5) (Fra.j0 (k + 1) y0 y1 y2 y3 y4 y5)) ∧ (∀ y0 y1 y2 y3 y4 y5, LeO (Fra.l0 k y0 y1 y2 y3 y4 y5) (Fra.l0 (k + 1) y0 y1 y2 y3 y4 y5)) ∧ (∀ y0 y1 y2 y3 y4 y5 y6 y7 y8, LeO (Fra.l1 k y0 y1 y2 y3 y4 y5 y6 y7 y8) (Fra.l1 (k + 1) y0 y1 y2 y3 y4 y5 y6 y7 y8))
 | 0 => ⟨fun _ _ _ _ _ _ r h => by simp [Fra.j0] at h, fun _ _ _ _ _ _ r h => by simp [Fra.l0] at h, fun _ _ _ _ _ _ _ _ _ r h => by simp [Fra.l1] at h⟩
 | k + 1 => by
  obtain ⟨ih0, ih1, ih2⟩ := Fra.mono_l k; refine ⟨?_, ?_, ?_⟩
  ·intro y0 y1 y2 y3 y4 y5
   unfold Fra.j0
   repeat' first | (with_reducible first | exact ih0 _ _ _ _ _ _ | exact ih1 _ _ _ _ _ _ | exact ih2 _ _ _ _ _ _ _ _ _ | exact Foc.mono _ _ _ _ | exact Fpb.mono _ _ _ | exact Fqb.mono _ _ _ | exact lA | apply lI | refine lB ?_ fun _ => ?_) | exact lN _ | apply lI | refine lB ?_ fun _ => ?_
  ·intro y0 y1 y2 y3 y4 y5
   unfold Fra.l0
   repeat' first | (with_reducible first | exact ih0 _ _ _ _ _ _ | exact ih1 _ _ _ _ _ _ | exact ih2 _ _ _ _ _ _ _ _ _ | exact Foc.mono _ _ _ _ | exact Fpb.mono _ _ _ | exact Fqb.mono _ _ _ | exact lA | apply lI | refine lB ?_ fun _ => ?_) | exact lN _ | apply lI | refine lB ?_ fun _ => ?_
  ·intro y0 y1 y2 y3 y4 y5 y6 y7 y8
   unfold Fra.l1
   repeat' first | (with_reducible first | exact ih0 _ _ _ _ _ _ | exact ih1 _ _ _ _ _ _ | exact ih2 _ _ _ _ _ _ _ _ _ | exact Foc.mono _ _ _ _ | exact Fpb.mono _ _ _ | exact Fqb.mono _ _ _ | exact lA | apply lI | refine lB ?_ fun _ => ?_) | exact lN _ | apply lI | refine lB ?_ fun _ => ?_
theorem Fra.mono : ∀ a0 a1 a2 a3 k, LeO (Fra.f k a0 a1 a2 a3) (Fra.f (k + 1) a0 a1 a2 a3) := by
 intro a0 a1 a2 a3 k; obtain ⟨ih0, ih1, ih2⟩ := Fra.mono_l k
 unfold Fra.f
 repeat' first | (with_reducible first | exact ih0 _ _ _ _ _ _ | exact ih1 _ _ _ _ _ _ | exact ih2 _ _ _ _ _ _ _ _ _ | exact Foc.mono _ _ _ _ | exact Fpb.mono _ _ _ | exact Fqb.mono _ _ _ | exact lA | apply lI | refine lB ?_ fun _ => ?_) | exact lN _ | apply lI | refine lB ?_ fun _ => ?_
def Fra.T2 : Bool × List (List Nat × List Nat) := (true, [([], []), ([0], [0]), ([], []), ([1, 2], [1, 2]), ([3], [3]), ([4, 3], [4]), ([5], [5]), ([6, 5], [5, 6]), ([7, 5], [5, 7]), ([5], [5]), ([9, 5], [5, 9]), ([8, 10, 5], [5, 8, 10]), ([5, 11], [5, 11]), ([12, 5], [12]), ([13], [13]), ([14, 13], [13, 14]), ([15, 13], [13, 15]), ([16, 13], [13, 16]), ([17, 13], [13, 17]), ([13, 18], [13, 18]), ([19, 13], [19]), ([20], [20]), ([21, 20], [20, 21]), ([20], [20]), ([22, 23, 20], [20, 22, 23]), ([24, 20], [20, 24]), ([20], [20]), ([26, 20], [20, 26]), ([27, 20], [20, 27]), ([25, 28, 20], [20, 25, 28]), ([20, 29], [20, 29])])
def Fra.B2 : List Nat := [0, 1, 0, 7, 15, 31, 63, 127, 255, 63, 575, 2047, 4095, 8191, 16383, 32767, 65535, 131071, 262143, 524287, 1048575, 2097151, 4194303, 2097151, 16777215, 33554431, 2097151, 69206015, 203423743, 536870911, 1073741823]
theorem Fra.tab2 : rtab .any (opsOf Try.f16 2) = Fra.T2 := by kernel_rfl
theorem Fra.bits2 : waitsOk Fra.T2.2 Fra.B2 = true := by kernel_rfl
def Fra.T7 : Bool × List (List Nat × List Nat) := (true, [([], []), ([0], [0]), ([], []), ([1, 2], [1, 2]), ([3], [3]), ([], []), ([5], [5]), ([], []), ([7], [7]), ([6, 8], [6, 8]), ([9], [9]), ([4, 10], [4, 10])])
def Fra.B7 : List Nat := [0, 1, 0, 7, 15, 0, 32, 0, 128, 480, 992, 2047]
theorem Fra.tab7 : rtab .any (opsOf Try.f16 7) = Fra.T7 := by kernel_rfl
theorem Fra.bits7 : waitsOk Fra.T7.2 Fra.B7 = true := by kernel_rfl
def Fra.T9 : Bool × List (List Nat × List Nat) := (true, [([], []), ([], []), ([1], [1]), ([0, 2], [0, 2]), ([], []), ([], []), ([5], [5]), ([4, 6, 3], [4, 6]), ([3, 7], [3, 7]), ([], []), ([9, 8, 7, 0, 1, 2, 3, 4, 5, 6, 7, 8, 9], [8, 9])])
def Fra.B9 : List Nat := [0, 0, 2, 7, 0, 0, 32, 127, 255, 0, 1023]
theorem Fra.tab9 : rtab .any (opsOf Try.f16 9) = Fra.T9 := by kernel_rfl
theorem Fra.bits9 : waitsOk Fra.T9.2 Fra.B9 = true := by kernel_rfl
def Fra.T13 : Bool × List (List Nat × List Nat) := (true, [([], []), ([0], [0]), ([], []), ([2], [2]), ([], []), ([3, 4], [3, 4]), ([5], [5]), ([], []), ([7], [7]), ([], []), ([9], [9]), ([8, 10], [8, 10]), ([11], [11]), ([1, 6, 12], [1, 6, 12]), ([13, 0, 1, 2, 3, 4, 5, 6, 7, 8, 9, 10, 11, 12, 13], [13])])
def Fra.B13 : List Nat := [0, 1, 0, 4, 0, 28, 60, 0, 128, 0, 512, 1920, 3968, 8191, 16383]
theorem Fra.tab13 : rtab .any (opsOf Try.f16 13) = Fra.T13 := by kernel_rfl
theorem Fra.bits13 : waitsOk Fra.T13.2 Fra.B13 = true := by kernel_rfl
theorem Fra.calls (k : Nat) (aq : Option Addr) (ar : Nat) (ac : List ByteArray) (aw : Option Addr) (ax : Nat) (U : List Bool) (a6 : Option Addr) (ay : Nat) (F : List Int) (aj : Option Addr) (ai : Nat) (ab : List (S73)) (r1 : List ByteArray) (r2 : List Bool) (r3 : List (List Int)) (r4 : Bool) (w : World) (cS : Kd.C Kd.string w aq ac.length ac) (cT : ac.length ≤ ar) (cU : Kd.C Kd.bool w aw U.length U) (cV : U.length ≤ ax) (cW : Kd.C (Kd.int .i64) w a6 F.length F) (cY : F.length ≤ ay) (cZ : Kd.C k73 w aj ab.length ab) (c0 : ab.length ≤ ai) (h : Fra.f k ac U F ab = some (r1, r2, r3, r4)) :
  Calls Try.prog 16 #[.agg #[.slice aq ac.length ar, .slice aw U.length ax, .slice a6 F.length ay, .slice aj ab.length ai]] w fun e w' => ∃ d7 d8 d9 : Value, e = .returned (.tuple #[.agg #[d7, d8, d9], .bool r4]) ∧ Kd.R Kd.string 9 w' w.heap.size (fun _ => True) d7 r1 ∧ Kd.R Kd.bool 4 w' w.heap.size (fun _ => True) d8 r2 ∧ Kd.S (Kd.slice 3 (Kd.int .i64)) 24 w' w.heap.size (fun _ => True) d9 r3 ∧ Below w.heap.size w w' := by
 have hu27 := Try.underlying27; have hu45 := Try.underlying45; have be := aM cS; have bN := aM cT; clear cS cT; have c2 := aM cU; have fX := aM cV; clear cU cV; have aK := aM cW; have fY := aM cY; clear cW cY; have ce := aM cZ; have cf := aM c0; clear cZ c0; have HB := aM (Below.refl w.heap.size w); rw [Fra.f] at h; have H := h; clear h; have dw := aM H; clear H
 go_enter Try.func16, Try.ntmps16
 go_upto_region 2 with (first | ((with_reducible refine gate_dst (N := 1) rfl ?_); (try (refine gate_guard (by rfl) ?_; dsimp only)); refine be_ (cs := #[.slice aq ac.length ar, .slice aw U.length ax, .slice a6 F.length ay, .slice aj ab.length ai]) (t := 27) ?_; intro O hg w3 a8 hb; have z := aM (a8); have fZ := gE hg (bP0 HB); have B := gE hg (bP0 HB); replace HB := hS0 HB hb; clear hb a8 hg) | ((with_reducible refine gate_dst (N := 2) rfl ?_); (try (refine gate_guard (by rfl) ?_; dsimp only)); refine be_ (cs := #[.slice none 0 0, .slice none 0 0, .slice none 0 0]) (t := 45) ?_; intro al hg w4 a8 hb; have A := aM (a8); have f0 := gE hg (bP1 HB B); have E := gE hg (bP1 HB B); replace HB := hS1 HB B hb; have aD := nL hg z; have aE := nG hg z; replace z := kB z hb; clear hb a8 hg; have gN := aD.out; have gO := aE.out; obtain ⟨fG, fH, fI, fJ, fK, fL, fM, fN⟩ := bG4 z))
 (try simp only [Act.put, sA, sB, sC])
 go_cut [44] (fun fO wc => ∃ (kq : Nat) (bO : Bool), fO = .bool bO ∧ Aside0 (Fra.j0 kq (U.length : Int) bO ac U F ab = some (r1, r2, r3, r4)) ∧ Aside0 (kq ≤ k) ∧ Aside0 (wc.heap[O]? = some (.cells #[(.slice aq ac.length ar), (.slice aw U.length ax), (.slice a6 F.length ay), (.slice aj ab.length ai)] 27 (0, 0))) ∧ Aside0 (wc.heap[al]? = some (.cells #[(.slice none 0 0), (.slice none 0 0), (.slice none 0 0)] 45 (0, 0))) ∧ BA w wc)
 case first =>
  have H := dw.out; clear dw; apply bSx H; clear H; intro eg A7 H
  by_cases c8 : eg = true
  ·subst c8
   rw [if_pos rfl] at H
   apply iB H <;> clear H <;> intro c9 H
   ·obtain ⟨bX, eh⟩ := bq c9; clear c9
    (first | rw [bX] | (simp only [i64_w, i32_w]; rw [bX]) | skip)
    apply iN H; clear H; intro c3 H; have f1 := dT c3; have f2 : decide (0 < F.length) = true := dT (by omega); clear c3
    apply iB H <;> clear H <;> intro cx H
    ·obtain ⟨dS, dU⟩ := bq cx; clear cx
     apply iN H; clear H; intro c4 H; have f3 := dT c4; have f4 : decide (0 ≤ U.length) = true := dT (by omega); clear c4
     apply iN H; clear H; intro cy H; have f5 := dT cy; have f6 : decide (U.length < F.length) = true := dT (Int.ofNat_lt.mp cy); clear cy; have H' := aM H; clear H
     replace z := kD z; replace A := kD A; replace HB := aM (below_drew1 HB.out); have bA : 0 ≤ (0 : Int) := (by omega); have bB : 0 < (F.length : Int) := oT aO; obtain ⟨bj, cE, ap⟩ := Kd.at_int aK.out 0 bA bB; have am := ap
     (try rw [show ((0 : Int)).toNat = 0 from rfl] at am)
     (try rw [show 0 * 1 = 0 from rfl] at am)
     (try rw [Addr.add_zero'] at am)
     cases cE; have qi360 : (0 < F.length) = True := eq_true (by omega)
     (try rw [show ((0 : Int)).toNat = 0 from rfl] at ap)
     (try rw [Addr.add_zero'] at ap)
     replace ap := cX HB ap; replace bA := eq_true bA; replace bB := eq_true bB; have cF : 0 ≤ ((U.length : Int) : Int) := oT aO; have cG : (U.length : Int) < (F.length : Int) := oT aO; obtain ⟨dV, ei, bg⟩ := Kd.at_int aK.out (U.length : Int) cF cG; have br := bg; obtain rfl := sJJ ei; replace bg := cX HB bg
     (try simp only [Go.IntWalk.toNatUp] at bg)
     replace cF := eq_true cF; replace cG := eq_true cG; refine start_ (n := 31) (S := fun w' => w'.cell? ⟨O, 0, none⟩ = some (.slice aq ac.length ar) ∧ w'.cell? ⟨O, 1, none⟩ = some (.slice aw U.length ax) ∧ w'.cell? ⟨O, 2, none⟩ = some (.slice (some bj) F.length ay) ∧ w'.cell? ⟨O, 3, none⟩ = some (.slice aj ab.length ai) ∧ w'.cell? bj = some (.int .i64 (rd F 0)) ∧ w'.cell? (bj.add U.length) = some (.int .i64 (rd F (U.length : Int)))) (ds := []) (bl 31 0) (by kernel_rfl) rfl rfl ⟨(blk_cell z.out 0).trans rfl, (blk_cell z.out 1).trans rfl, (blk_cell z.out 2).trans rfl, (blk_cell z.out 3).trans rfl, ((HB.out.cell (World.block_lt_of_cell? w _ am)).trans am), ((HB.out.cell (World.block_lt_of_cell? w _ br)).trans br)⟩ (fun aI => ?_); refine with_tabW Fra.tab2 Fra.bits2 (fun aJ a7 => ?_); generalize w4.drew = gT at z A HB ap bg aI ⊢; refine pu_ 0 14 (bl 31 1) aJ ?_; refine pu_ 2 16 (bl 31 5) aJ ?_; refine tk6_ 1 15 (bl 31 7) aJ a7 aI ?_; refine one_ (i := 3) (N := some 17) (bl 31 15) rfl rfl (one_of aJ.out (by kernel_rfl)) (by decide) (fun K hK => ?_); refine gS_ Try.func34 #[.slice aq ac.length ar, .int .i64 (U.length : Int)] ?_
     with_reducible refine (Fqb.calls k _ _ ac (U.length : Int) true _ ?s1 ?s2 A7.out).mono ?_
     (case s1 => exact cB be HB)
     (case s2 => exact bN.out)
     rintro e gU ⟨rfl, hb⟩; refine ⟨_, rfl, ?_⟩; replace z := kB z hb; replace A := kB A hb; replace HB := hS2 HB B E hb
     refine hK.out _ _ ⟨(blk_cell z.out 0).trans rfl, (blk_cell z.out 1).trans rfl, (blk_cell z.out 2).trans rfl, (blk_cell z.out 3).trans rfl, ((HB.out.cell (World.block_lt_of_cell? w _ am)).trans am), ((HB.out.cell (World.block_lt_of_cell? w _ br)).trans br)⟩ (fun aI => ?_); clear hK K; refine nm_ 17 ?_; refine pu_ 4 18 (bl 31 31) aJ ?_; refine pu_ 5 19 (bl 31 63) aJ ?_; refine pu_ 6 20 (bl 31 127) aJ ?_; refine pu_ 9 23 (bl 31 639) aJ ?_; refine pu_ 10 24 (bl 31 1663) aJ ?_; refine tk6_ 7 21 (bl 31 1791) aJ a7 aI ?_; refine pu_ 8 22 (bl 31 2047) aJ ?_; refine pu_ 11 25 (bl 31 4095) aJ ?_; refine pu_ 12 26 (bl 31 8191) aJ ?_; refine pu_ 13 27 (bl 31 16383) aJ ?_; refine pu_ 14 28 (bl 31 32767) aJ ?_; refine tk6_ 15 29 (bl 31 65535) aJ a7 aI ?_; refine pu_ 16 30 (bl 31 131071) aJ ?_; refine tk6_ 17 31 (bl 31 262143) aJ a7 aI ?_; refine pu_ 18 32 (bl 31 524287) aJ ?_; refine pu_ 19 33 (bl 31 1048575) aJ ?_; refine pu_ 20 34 (bl 31 2097151) aJ ?_; refine pu_ 21 35 (bl 31 4194303) aJ ?_; refine pu_ 23 37 (bl 31 12582911) aJ ?_; refine pu_ 26 40 (bl 31 79691775) aJ ?_; refine tk6_ 22 36 (bl 31 83886079) aJ a7 aI ?_; refine pu_ 24 38 (bl 31 100663295) aJ ?_; refine tk6_ 25 39 (bl 31 134217727) aJ a7 aI ?_; refine tk6_ 27 41 (bl 31 268435455) aJ a7 aI ?_; refine pu_ 28 42 (bl 31 536870911) aJ ?_; refine pu_ 29 43 (bl 31 1073741823) aJ ?_; refine pu_ 30 44 (bl 31 2147483647) aJ ?_; refine done_ (done_of aJ.out (by kernel_rfl)) ?_
     try go_wp2
     go_meet
     case rel => exact ⟨_, (((rd F (U.length : Int)) != (ab.length : Int))), sI, H', lE, kQ z, kQ A, bT2 HB B E⟩
    ·obtain ⟨dS, dU⟩ := bn cx; have H' := aM H; clear H
     replace z := kD z; replace A := kD A; replace HB := aM (below_drew1 HB.out); have bA : 0 ≤ (0 : Int) := (by omega); have bB : 0 < (F.length : Int) := oT aO; obtain ⟨bj, cE, ap⟩ := Kd.at_int aK.out 0 bA bB; have am := ap
     (try rw [show ((0 : Int)).toNat = 0 from rfl] at am)
     (try rw [show 0 * 1 = 0 from rfl] at am)
     (try rw [Addr.add_zero'] at am)
     cases cE; have qi360 : (0 < F.length) = True := eq_true (by omega)
     (try rw [show ((0 : Int)).toNat = 0 from rfl] at ap)
     (try rw [Addr.add_zero'] at ap)
     replace ap := cX HB ap; replace bA := eq_true bA; replace bB := eq_true bB; refine start_ (n := 31) (S := fun w' => w'.cell? ⟨O, 0, none⟩ = some (.slice aq ac.length ar) ∧ w'.cell? ⟨O, 1, none⟩ = some (.slice aw U.length ax) ∧ w'.cell? ⟨O, 2, none⟩ = some (.slice (some bj) F.length ay) ∧ w'.cell? ⟨O, 3, none⟩ = some (.slice aj ab.length ai) ∧ w'.cell? bj = some (.int .i64 (rd F 0))) (ds := []) (bl 31 0) (by kernel_rfl) rfl rfl ⟨(blk_cell z.out 0).trans rfl, (blk_cell z.out 1).trans rfl, (blk_cell z.out 2).trans rfl, (blk_cell z.out 3).trans rfl, ((HB.out.cell (World.block_lt_of_cell? w _ am)).trans am)⟩ (fun aI => ?_); refine with_tabW Fra.tab2 Fra.bits2 (fun aJ a7 => ?_); generalize w4.drew = gV at z A HB ap aI ⊢; refine pu_ 0 14 (bl 31 1) aJ ?_; refine pu_ 2 16 (bl 31 5) aJ ?_; refine tk5_ 1 15 (bl 31 7) aJ a7 aI ?_; refine one_ (i := 3) (N := some 17) (bl 31 15) rfl rfl (one_of aJ.out (by kernel_rfl)) (by decide) (fun K hK => ?_); refine gS_ Try.func34 #[.slice aq ac.length ar, .int .i64 (U.length : Int)] ?_
     with_reducible refine (Fqb.calls k _ _ ac (U.length : Int) true _ ?s1 ?s2 A7.out).mono ?_
     (case s1 => exact cB be HB)
     (case s2 => exact bN.out)
     rintro e gW ⟨rfl, hb⟩; refine ⟨_, rfl, ?_⟩; replace z := kB z hb; replace A := kB A hb; replace HB := hS2 HB B E hb
     refine hK.out _ _ ⟨(blk_cell z.out 0).trans rfl, (blk_cell z.out 1).trans rfl, (blk_cell z.out 2).trans rfl, (blk_cell z.out 3).trans rfl, ((HB.out.cell (World.block_lt_of_cell? w _ am)).trans am)⟩ (fun aI => ?_); clear hK K; refine nm_ 17 ?_; refine pu_ 4 18 (bl 31 31) aJ ?_; refine pu_ 5 19 (bl 31 63) aJ ?_; refine pu_ 6 20 (bl 31 127) aJ ?_; refine pu_ 9 23 (bl 31 639) aJ ?_; refine pu_ 10 24 (bl 31 1663) aJ ?_; refine tk5_ 7 21 (bl 31 1791) aJ a7 aI ?_; refine pu_ 8 22 (bl 31 2047) aJ ?_; refine pu_ 11 25 (bl 31 4095) aJ ?_; refine pu_ 12 26 (bl 31 8191) aJ ?_; refine pu_ 13 27 (bl 31 16383) aJ ?_; refine pu_ 14 28 (bl 31 32767) aJ ?_; refine tk5_ 15 29 (bl 31 65535) aJ a7 aI ?_; refine pu_ 16 30 (bl 31 131071) aJ ?_; refine tk5_ 17 31 (bl 31 262143) aJ a7 aI ?_; refine pu_ 18 32 (bl 31 524287) aJ ?_; refine pu_ 19 33 (bl 31 1048575) aJ ?_; refine pu_ 20 34 (bl 31 2097151) aJ ?_; refine pn_ 21 35 (bl 31 4194303) aJ ?_; refine pn_ 22 36 (bl 31 8388607) aJ ?_; refine pn_ 23 37 (bl 31 16777215) aJ ?_; refine pn_ 24 38 (bl 31 33554431) aJ ?_; refine pn_ 25 39 (bl 31 67108863) aJ ?_; refine pn_ 26 40 (bl 31 134217727) aJ ?_; refine pn_ 27 41 (bl 31 268435455) aJ ?_; refine pn_ 28 42 (bl 31 536870911) aJ ?_; refine pn_ 29 43 (bl 31 1073741823) aJ ?_; refine pu_ 30 44 (bl 31 2147483647) aJ ?_; refine done_ (done_of aJ.out (by kernel_rfl)) ?_
     try go_wp2
     go_meet
     case rel => exact ⟨_, (true), sI, H', lE, kQ z, kQ A, bT2 HB B E⟩
   ·obtain ⟨bX, eh⟩ := bn c9
    (first | rw [bX] | (simp only [i64_w, i32_w]; rw [bX]) | skip)
    have H' := aM H; clear H
    try go_wp2
    replace z := kD z; replace A := kD A; replace HB := aM (below_drew1 HB.out); refine start_ (n := 31) (S := fun w' => w'.cell? ⟨O, 0, none⟩ = some (.slice aq ac.length ar) ∧ w'.cell? ⟨O, 1, none⟩ = some (.slice aw U.length ax) ∧ w'.cell? ⟨O, 2, none⟩ = some (.slice a6 F.length ay) ∧ w'.cell? ⟨O, 3, none⟩ = some (.slice aj ab.length ai)) (ds := []) (bl 31 0) (by kernel_rfl) rfl rfl (bD4 z) (fun aI => ?_); refine with_tabW Fra.tab2 Fra.bits2 (fun aJ a7 => ?_); generalize w4.drew = gX at z A HB aI ⊢; refine pu_ 0 14 (bl 31 1) aJ ?_; refine pu_ 2 16 (bl 31 5) aJ ?_; refine tk4_ 1 15 (bl 31 7) aJ a7 aI ?_; refine one_ (i := 3) (N := some 17) (bl 31 15) rfl rfl (one_of aJ.out (by kernel_rfl)) (by decide) (fun K hK => ?_); refine gS_ Try.func34 #[.slice aq ac.length ar, .int .i64 (U.length : Int)] ?_
    with_reducible refine (Fqb.calls k _ _ ac (U.length : Int) true _ ?s1 ?s2 A7.out).mono ?_
    (case s1 => exact cB be HB)
    (case s2 => exact bN.out)
    rintro e gY ⟨rfl, hb⟩; refine ⟨_, rfl, ?_⟩; replace z := kB z hb; replace A := kB A hb; replace HB := hS2 HB B E hb
    refine hK.out _ _ (bD4 z) (fun aI => ?_); clear hK K; refine nm_ 17 ?_; refine pu_ 4 18 (bl 31 31) aJ ?_; refine pu_ 5 19 (bl 31 63) aJ ?_; refine pu_ 6 20 (bl 31 127) aJ ?_; refine pu_ 9 23 (bl 31 639) aJ ?_; refine pu_ 10 24 (bl 31 1663) aJ ?_; refine tk4_ 7 21 (bl 31 1791) aJ a7 aI ?_; refine pu_ 8 22 (bl 31 2047) aJ ?_; refine pu_ 11 25 (bl 31 4095) aJ ?_; refine pu_ 12 26 (bl 31 8191) aJ ?_; refine pu_ 13 27 (bl 31 16383) aJ ?_; refine pn_ 14 28 (bl 31 32767) aJ ?_; refine pn_ 15 29 (bl 31 65535) aJ ?_; refine pn_ 16 30 (bl 31 131071) aJ ?_; refine pn_ 17 31 (bl 31 262143) aJ ?_; refine pn_ 18 32 (bl 31 524287) aJ ?_; refine pu_ 19 33 (bl 31 1048575) aJ ?_; refine pu_ 20 34 (bl 31 2097151) aJ ?_; refine pn_ 21 35 (bl 31 4194303) aJ ?_; refine pn_ 22 36 (bl 31 8388607) aJ ?_; refine pn_ 23 37 (bl 31 16777215) aJ ?_; refine pn_ 24 38 (bl 31 33554431) aJ ?_; refine pn_ 25 39 (bl 31 67108863) aJ ?_; refine pn_ 26 40 (bl 31 134217727) aJ ?_; refine pn_ 27 41 (bl 31 268435455) aJ ?_; refine pn_ 28 42 (bl 31 536870911) aJ ?_; refine pn_ 29 43 (bl 31 1073741823) aJ ?_; refine pu_ 30 44 (bl 31 2147483647) aJ ?_; refine done_ (done_of aJ.out (by kernel_rfl)) ?_
    try go_wp2
    go_meet
    case rel => exact ⟨_, (true), sI, H', lE, kQ z, kQ A, bT2 HB B E⟩
  ·replace c8 := Bool.eq_false_iff.mpr c8; subst c8
   rw [if_neg nF] at H; have H' := aM H; clear H
   try go_wp2
   replace z := kD z; replace A := kD A; replace HB := aM (below_drew1 HB.out); refine start_ (n := 31) (S := fun w' => w'.cell? ⟨O, 0, none⟩ = some (.slice aq ac.length ar) ∧ w'.cell? ⟨O, 1, none⟩ = some (.slice aw U.length ax) ∧ w'.cell? ⟨O, 2, none⟩ = some (.slice a6 F.length ay) ∧ w'.cell? ⟨O, 3, none⟩ = some (.slice aj ab.length ai)) (ds := []) (bl 31 0) (by kernel_rfl) rfl rfl (bD4 z) (fun aI => ?_); refine with_tabW Fra.tab2 Fra.bits2 (fun aJ a7 => ?_); generalize w4.drew = gZ at z A HB aI ⊢; refine pu_ 0 14 (bl 31 1) aJ ?_; refine pu_ 2 16 (bl 31 5) aJ ?_; refine tk4_ 1 15 (bl 31 7) aJ a7 aI ?_; refine one_ (i := 3) (N := some 17) (bl 31 15) rfl rfl (one_of aJ.out (by kernel_rfl)) (by decide) (fun K hK => ?_); refine gS_ Try.func34 #[.slice aq ac.length ar, .int .i64 (U.length : Int)] ?_
   with_reducible refine (Fqb.calls k _ _ ac (U.length : Int) false _ ?s1 ?s2 A7.out).mono ?_
   (case s1 => exact cB be HB)
   (case s2 => exact bN.out)
   rintro e g0 ⟨rfl, hb⟩; refine ⟨_, rfl, ?_⟩; replace z := kB z hb; replace A := kB A hb; replace HB := hS2 HB B E hb
   refine hK.out _ _ (bD4 z) (fun aI => ?_); clear hK K; refine nm_ 17 ?_; refine pu_ 4 18 (bl 31 31) aJ ?_; refine pu_ 5 19 (bl 31 63) aJ ?_; refine pn_ 6 20 (bl 31 127) aJ ?_; refine pn_ 7 21 (bl 31 255) aJ ?_; refine pn_ 8 22 (bl 31 511) aJ ?_; refine pn_ 9 23 (bl 31 1023) aJ ?_; refine pn_ 10 24 (bl 31 2047) aJ ?_; refine pn_ 11 25 (bl 31 4095) aJ ?_; refine pu_ 12 26 (bl 31 8191) aJ ?_; refine pu_ 13 27 (bl 31 16383) aJ ?_; refine pn_ 14 28 (bl 31 32767) aJ ?_; refine pn_ 15 29 (bl 31 65535) aJ ?_; refine pn_ 16 30 (bl 31 131071) aJ ?_; refine pn_ 17 31 (bl 31 262143) aJ ?_; refine pn_ 18 32 (bl 31 524287) aJ ?_; refine pu_ 19 33 (bl 31 1048575) aJ ?_; refine pu_ 20 34 (bl 31 2097151) aJ ?_; refine pn_ 21 35 (bl 31 4194303) aJ ?_; refine pn_ 22 36 (bl 31 8388607) aJ ?_; refine pn_ 23 37 (bl 31 16777215) aJ ?_; refine pn_ 24 38 (bl 31 33554431) aJ ?_; refine pn_ 25 39 (bl 31 67108863) aJ ?_; refine pn_ 26 40 (bl 31 134217727) aJ ?_; refine pn_ 27 41 (bl 31 268435455) aJ ?_; refine pn_ 28 42 (bl 31 536870911) aJ ?_; refine pn_ 29 43 (bl 31 1073741823) aJ ?_; refine pu_ 30 44 (bl 31 2147483647) aJ ?_; refine done_ (done_of aJ.out (by kernel_rfl)) ?_
   try go_wp2
   go_meet
   case rel => exact ⟨_, (true), sI, H', lE, kQ z, kQ A, bT2 HB B E⟩
 case rest =>
  clear dw
  obtain ⟨kq, bO, rfl, HA, HJ1, z, A, HB⟩ := hcut; cases kq with
  | zero => exact absurd HA.out (by simp [Fra.j0])
  | succ eb =>
   have H := HA.out; clear HA; simp only [Fra.j0] at H
   by_cases c5 : bO = true
   ·subst c5
    rw [if_pos rfl] at H; obtain ⟨rfl, rfl, rfl, rfl⟩ := pE4 H; have f7 := aE.out; have f8 := aD.out; obtain ⟨ev, ew, ex, ey, ez, eA⟩ := bG3 A
    go_wp2
    refine bodyPost_ret (results_ct rfl _ _ al 45 #[.slice none 0 0, .slice none 0 0, .slice none 0 0] (0, 0) _ rfl (by (with_reducible repeat (first | refine blk_drewN ?_ _ | refine blk_drew ?_ | refine blk_alloc ?_ _)); exact blk_put (blk_put (blk_put A.out 0 _ rfl) 1 _ rfl) 2 _ rfl) Try.underlying45 rfl (by kernel_rfl)) rfl ?_; exact ⟨_, _, _, eW, by first | exact Kd.R_nil _ _ _ _ _ | exact Kd.N_nil _ _ _ _ _ | exact Kd.V_nil _ _ _ _ _ | exact Kd.Q_nil _ _ _ _ _ | exact Kd.S_nil _ _ _ _ _, by first | exact Kd.R_nil _ _ _ _ _ | exact Kd.N_nil _ _ _ _ _ | exact Kd.V_nil _ _ _ _ _ | exact Kd.Q_nil _ _ _ _ _ | exact Kd.S_nil _ _ _ _ _, by first | exact Kd.S_nil _ _ _ _ _ | exact Kd.N_nil _ _ _ _ _ | exact Kd.V_nil _ _ _ _ _ | exact Kd.Q_nil _ _ _ _ _ | exact Kd.R_nil _ _ _ _ _, bS2 HB.out B.out E.out⟩
   ·replace c5 := Bool.eq_false_iff.mpr c5; subst c5
    rw [if_neg nF] at H; have H' := aM H; clear H
    go_wp2
    go_loopg [5] eb (fun kq v5 w' => ∃ (az : Int), v5 = .int .i64 az ∧ Aside0 (Fra.l0 kq (U.length : Int) az ac U F ab = some (r1, r2, r3, r4)) ∧ Aside0 (kq ≤ eb) ∧ Aside0 (w'.heap[O]? = some (.cells #[(.slice aq ac.length ar), (.slice aw U.length ax), (.slice a6 F.length ay), (.slice aj ab.length ai)] 27 (0, 0))) ∧ Aside0 (w'.heap[al]? = some (.cells #[(.slice none 0 0), (.slice none 0 0), (.slice none 0 0)] 45 (0, 0))) ∧ BA w w')
    case atStart => exact ⟨(0), sI, H', ⟨Nat.le_refl _⟩, kQ z, kQ A, bT2 HB B E⟩
    case round =>
     clear H'
     obtain ⟨az, rfl, HA, cu, z, A, HB⟩ := hrel; cases gk with
     | zero => exact absurd HA.out (by simp [Fra.l0])
     | succ k2 =>
      have H := HA.out; clear HA; simp only [Fra.l0] at H
      apply iB H <;> clear H <;> intro b7 H
      ·have dW := dT b7; clear b7
       apply iN H; clear H; intro c6 H; have f9 := dT c6; clear c6
       apply iN H; clear H; intro c7 H; have ga := dT c7; clear c7; obtain ⟨aT, bG⟩ : ∃ j_ : Int, (wrap64 (az + 1)) = j_ := ⟨_, rfl⟩
       first | rw [bG] at H | simp only [bG] at H
       have hji28w : (IntKind.i64.wrap (az + 1)) = aT := (i64_w _).trans bG
       apply iN H; clear H; intro da H; have gb := dT da; clear da
       apply iN H; clear H; intro db H; have gc := dT db; clear db
       apply iB H <;> clear H <;> intro b8 H
       ·have dX := dT b8; clear b8; obtain ⟨rfl, rfl, rfl, rfl⟩ := pE4 H
        try go_wp2
        replace z := kD z; replace A := kD A; replace HB := aM (below_drew1 HB.out); have bC : 0 ≤ (az : Int) := oT aO; have bD : az < (F.length : Int) := oT aO; obtain ⟨a5, cH, aN⟩ := Kd.at_int aK.out az bC bD; have bh := aN; cases cH; replace aN := cX HB aN; replace bC := eq_true bC; replace bD := eq_true bD; have bE : 0 ≤ ((aT) : Int) := oT aO; have bF : (aT) < (F.length : Int) := oT aO; obtain ⟨cg, cI, aQ⟩ := Kd.at_int aK.out (aT) bE bF; have bi := aQ; obtain rfl := sJJ cI; replace aQ := cX HB aQ; replace bE := eq_true bE; replace bF := eq_true bF; refine start_ (n := 12) (S := fun w' => w'.cell? ⟨O, 0, none⟩ = some (.slice aq ac.length ar) ∧ w'.cell? ⟨O, 1, none⟩ = some (.slice aw U.length ax) ∧ w'.cell? ⟨O, 2, none⟩ = some (.slice (some a5) F.length ay) ∧ w'.cell? ⟨O, 3, none⟩ = some (.slice aj ab.length ai) ∧ w'.cell? (a5.add (az).toNat) = some (.int .i64 (rd F az)) ∧ w'.cell? (a5.add ((aT)).toNat) = some (.int .i64 (rd F (aT)))) (ds := []) (bl 12 0) (by kernel_rfl) rfl rfl ⟨(blk_cell z.out 0).trans rfl, (blk_cell z.out 1).trans rfl, (blk_cell z.out 2).trans rfl, (blk_cell z.out 3).trans rfl, ((HB.out.cell (World.block_lt_of_cell? w _ bh)).trans bh), ((HB.out.cell (World.block_lt_of_cell? w _ bi)).trans bi)⟩ (fun aI => ?_); refine with_tabW Fra.tab7 Fra.bits7 (fun aJ a7 => ?_); generalize wr.drew = g1 at z A HB aN aQ aI ⊢; refine pu_ 0 51 (bl 12 1) aJ ?_; refine pu_ 2 53 (bl 12 5) aJ ?_; refine pu_ 5 56 (bl 12 37) aJ ?_; refine pu_ 7 58 (bl 12 165) aJ ?_; refine pu_ 8 59 (bl 12 421) aJ ?_; refine tk6_ 1 52 (bl 12 423) aJ a7 aI ?_; refine pu_ 3 54 (bl 12 431) aJ ?_; refine tk6_ 4 55 (bl 12 447) aJ a7 aI ?_; refine tk6_ 6 57 (bl 12 511) aJ a7 aI ?_; refine pu_ 9 60 (bl 12 1023) aJ ?_; refine tk6_ 10 61 (bl 12 2047) aJ a7 aI ?_; refine pu_ 11 62 (bl 12 4095) aJ ?_; refine done_ (done_of aJ.out (by kernel_rfl)) ?_; have gd := aE.out; have ge := aD.out; obtain ⟨eB, eC, eD, eE, eF, eG⟩ := bG3 A
        try go_wp2
        refine bodyPost_ret (results_ct rfl _ _ al 45 #[.slice none 0 0, .slice none 0 0, .slice none 0 0] (0, 0) _ rfl (by (with_reducible repeat (first | refine blk_drewN ?_ _ | refine blk_drew ?_ | refine blk_alloc ?_ _)); exact blk_put (blk_put (blk_put A.out 0 _ rfl) 1 _ rfl) 2 _ rfl) Try.underlying45 rfl (by kernel_rfl)) rfl ?_; exact ⟨_, _, _, by first | rfl | (simp [errW_none, errW_some] <;> rfl) | (simp only [← bG]; first | rfl | (simp [errW_none, errW_some] <;> rfl)) | (simp [*, errW_none, errW_some] <;> rfl), by first | exact Kd.R_nil _ _ _ _ _ | exact Kd.N_nil _ _ _ _ _ | exact Kd.V_nil _ _ _ _ _ | exact Kd.Q_nil _ _ _ _ _ | exact Kd.S_nil _ _ _ _ _, by first | exact Kd.R_nil _ _ _ _ _ | exact Kd.N_nil _ _ _ _ _ | exact Kd.V_nil _ _ _ _ _ | exact Kd.Q_nil _ _ _ _ _ | exact Kd.S_nil _ _ _ _ _, by first | exact Kd.S_nil _ _ _ _ _ | exact Kd.N_nil _ _ _ _ _ | exact Kd.V_nil _ _ _ _ _ | exact Kd.Q_nil _ _ _ _ _ | exact Kd.R_nil _ _ _ _ _, bS2 HB.out B.out E.out⟩
       ·have dX := decide_eq_false b8; clear b8; have H' := aM H; clear H
        try go_wp2
        replace z := kD z; replace A := kD A; replace HB := aM (below_drew1 HB.out); have bC : 0 ≤ (az : Int) := oT aO; have bD : az < (F.length : Int) := oT aO; obtain ⟨a5, cH, aN⟩ := Kd.at_int aK.out az bC bD; have bh := aN; cases cH; replace aN := cX HB aN; replace bC := eq_true bC; replace bD := eq_true bD; have bE : 0 ≤ ((aT) : Int) := oT aO; have bF : (aT) < (F.length : Int) := oT aO; obtain ⟨cg, cI, aQ⟩ := Kd.at_int aK.out (aT) bE bF; have bi := aQ; obtain rfl := sJJ cI; replace aQ := cX HB aQ; replace bE := eq_true bE; replace bF := eq_true bF; refine start_ (n := 12) (S := fun w' => w'.cell? ⟨O, 0, none⟩ = some (.slice aq ac.length ar) ∧ w'.cell? ⟨O, 1, none⟩ = some (.slice aw U.length ax) ∧ w'.cell? ⟨O, 2, none⟩ = some (.slice (some a5) F.length ay) ∧ w'.cell? ⟨O, 3, none⟩ = some (.slice aj ab.length ai) ∧ w'.cell? (a5.add (az).toNat) = some (.int .i64 (rd F az)) ∧ w'.cell? (a5.add ((aT)).toNat) = some (.int .i64 (rd F (aT)))) (ds := []) (bl 12 0) (by kernel_rfl) rfl rfl ⟨(blk_cell z.out 0).trans rfl, (blk_cell z.out 1).trans rfl, (blk_cell z.out 2).trans rfl, (blk_cell z.out 3).trans rfl, ((HB.out.cell (World.block_lt_of_cell? w _ bh)).trans bh), ((HB.out.cell (World.block_lt_of_cell? w _ bi)).trans bi)⟩ (fun aI => ?_); refine with_tabW Fra.tab7 Fra.bits7 (fun aJ a7 => ?_); generalize wr.drew = g2 at z A HB aN aQ aI ⊢; refine pu_ 0 51 (bl 12 1) aJ ?_; refine pu_ 2 53 (bl 12 5) aJ ?_; refine pu_ 5 56 (bl 12 37) aJ ?_; refine pu_ 7 58 (bl 12 165) aJ ?_; refine pu_ 8 59 (bl 12 421) aJ ?_; refine tk6_ 1 52 (bl 12 423) aJ a7 aI ?_; refine pu_ 3 54 (bl 12 431) aJ ?_; refine tk6_ 4 55 (bl 12 447) aJ a7 aI ?_; refine tk6_ 6 57 (bl 12 511) aJ a7 aI ?_; refine pu_ 9 60 (bl 12 1023) aJ ?_; refine tk6_ 10 61 (bl 12 2047) aJ a7 aI ?_; refine pu_ 11 62 (bl 12 4095) aJ ?_; refine done_ (done_of aJ.out (by kernel_rfl)) ?_
        try go_wp2
        go_roundg k2
        case measure => have := HJ1.out; have := cu.out; omega
        case rel => exact ⟨(aT), (by first | rfl | (simp; done) | (simp only [← bG] <;> (first | rfl | simp)) | (simp [*]; done)), H', ⟨by have := HJ1.out; have := cu.out; omega⟩, kQ z, kQ A, bT2 HB B E⟩
      ·have dW := decide_eq_false b7; clear b7; obtain ⟨aZ, ch⟩ : ∃ y_ : List ByteArray, y_ = (([] : List ByteArray)) := ⟨_, rfl⟩
       replace H : (if aZ.length + ac.length < 8796093022208 then ((some (([] : List Bool) : List Bool)).bind fun aU => (if aU.length + U.length < 140737488355328 then (Fra.l1 k2 (U.length : Int) 0 ac U F ab (aZ ++ ac) (aU ++ U) ([] : List (List Int))) else (none))) else (none)) = some (r1, r2, r3, r4) := rH ch H
       have bP := aM ch; clear ch
       apply iN H; clear H; intro dc H; have bQ := aM dc; clear dc; obtain ⟨aG, bR⟩ : ∃ y_ : List ByteArray, y_ = (aZ ++ ac) := ⟨_, rfl⟩
       first | replace H := rI bR H | rw [← bR] at H
       have bS := aM bR; clear bR; obtain ⟨aU, ci⟩ : ∃ y_ : List Bool, y_ = (([] : List Bool)) := ⟨_, rfl⟩
       replace H : (if aU.length + U.length < 140737488355328 then (Fra.l1 k2 (U.length : Int) 0 ac U F ab aG (aU ++ U) ([] : List (List Int))) else (none)) = some (r1, r2, r3, r4) := rH ci H
       have bs := aM ci; clear ci
       apply iN H; clear H; intro dd H; have de := aM dd; clear dd; obtain ⟨a4, bT⟩ : ∃ y_ : List Bool, y_ = (aU ++ U) := ⟨_, rfl⟩
       first | replace H := rI bT H | rw [← bT] at H
       have df := aM bT; clear bT; have H' := aM H; clear H
       try go_wp2
       replace z := kD z; replace A := kD A; replace HB := aM (below_drew1 HB.out); refine start_ (n := 11) (S := fun w' => w'.cell? ⟨O, 0, none⟩ = some (.slice aq ac.length ar) ∧ w'.cell? ⟨O, 1, none⟩ = some (.slice aw U.length ax) ∧ w'.cell? ⟨O, 2, none⟩ = some (.slice a6 F.length ay) ∧ w'.cell? ⟨O, 3, none⟩ = some (.slice aj ab.length ai)) (ds := []) (bl 11 0) (by kernel_rfl) rfl rfl (bD4 z) (fun aI => ?_); refine with_tabW Fra.tab9 Fra.bits9 (fun aJ a7 => ?_); generalize wr.drew = g3 at z A HB aI ⊢; refine pu_ 1 65 (bl 11 2) aJ ?_; refine pu_ 5 69 (bl 11 34) aJ ?_; refine tk4_ 2 66 (bl 11 38) aJ a7 aI ?_; refine tk4_ 6 70 (bl 11 102) aJ a7 aI ?_; let q_1 : World → Prop := fun w' => w'.cell? ⟨O, 0, none⟩ = some (.slice aq ac.length ar) ∧ w'.cell? ⟨O, 1, none⟩ = some (.slice aw U.length ax) ∧ w'.cell? ⟨O, 2, none⟩ = some (.slice a6 F.length ay) ∧ w'.cell? ⟨O, 3, none⟩ = some (.slice aj ab.length ai); let q_2 : World → Prop := fun w' => Aside0 (w'.heap[O]? = some (.cells #[.slice aq ac.length ar, .slice aw U.length ax, .slice a6 F.length ay, .slice aj ab.length ai] 27 (0, 0))); let q_3 : World → Prop := fun w' => Aside0 (w'.heap[al]? = some (.cells #[.slice none 0 0, .slice none 0 0, .slice none 0 0] 45 (0, 0))); refine join_ (σ := Value × Value × Value × Value × Nat) 1 (bl 11 1023) (fun s_ => [(64, s_.1), (67, s_.2.1), (68, s_.2.2.1), (71, s_.2.2.2.1), (6, .pointer (some ⟨s_.2.2.2.2, 0, none⟩)), (72, .agg #[s_.2.1, s_.2.2.2.1, .slice none 0 0])]) (fun s_ w' => (q_1 w') ∧ (RA Kd.string 9 w' w s_.2.1 aG) ∧ (RA Kd.bool 4 w' w s_.2.2.2.1 a4) ∧ (q_2 w') ∧ (q_3 w') ∧ (Aside0 (w'.heap[s_.2.2.2.2]? = some (.cells #[.slice none 0 0, .slice none 0 0, .slice none 0 0] 45 (0, 0)))) ∧ (Aside0 (w.heap.size ≤ s_.2.2.2.2)) ∧ (Aside0 (w.heap.size ≤ s_.2.2.2.2)) ∧ (Aside0 (O ≠ s_.2.2.2.2)) ∧ (Aside0 (s_.2.2.2.2 ≠ O)) ∧ (Aside0 (al ≠ s_.2.2.2.2)) ∧ (Aside0 (s_.2.2.2.2 ≠ al)) ∧ BA w w') ?_ ?_
       ·clear z A HB; rintro ⟨ah, aH, ak, cJ, Y⟩ dz ⟨aI, Z, aA, z, A, G, ad, J, D, M, I, L, HB⟩; (try dsimp only at aI Z aA z A G ad J D M I L HB); obtain ⟨bJ, bK, bY⟩ := sL aA
        (first | subst bY | obtain ⟨rfl, rfl⟩ := iS bY)
        obtain ⟨cj, ck, dA⟩ := sL Z
        (first | subst dA | obtain ⟨rfl, rfl⟩ := iS dA)
        refine norm_ (a' := ?_) ?_ ?_; rotate_left
        ·simp only [putAll, Act.put, sA, sB, sC]
         rfl
        refine one_ (i := 10) (N := none) (bl 11 2047) rfl rfl (one_of aJ.out (by kernel_rfl)) (by decide) (fun K hK => ?_); have hs51 : dz.cell? ⟨Y, 0, none⟩ = some (.slice none 0 0) := (blk_cell G.out 0).trans rfl; have hfs51 := blk_frozen G.out 0; have hns51_0 := D.out; have hns51_1 := I.out; have hms51_0 := M.out; have hms51_1 := L.out; have hs52 : dz.cell? ⟨Y, 1, none⟩ = some (.slice none 0 0) := (blk_cell G.out 1).trans rfl; have hfs52 := blk_frozen G.out 1; have hns52_0 := D.out; have hns52_1 := I.out; have hms52_0 := M.out; have hms52_1 := L.out; have hs53 : dz.cell? ⟨Y, 2, none⟩ = some (.slice none 0 0) := (blk_cell G.out 2).trans rfl; have hfs53 := blk_frozen G.out 2; have hns53_0 := D.out; have hns53_1 := I.out; have hms53_0 := M.out; have hms53_1 := L.out; refine skip_ (w1 := ?_) (by rfl) rfl ?_ ?_; rotate_left
        ·go_simp
         rfl
        refine hK.out _ _ ⟨((cell_far (p := ⟨Y, _, none⟩) D.out _).trans (((cell_far (p := ⟨Y, _, none⟩) D.out _).trans (((cell_far (p := ⟨Y, _, none⟩) D.out _).trans (aI.1)))))), ((cell_far (p := ⟨Y, _, none⟩) D.out _).trans (((cell_far (p := ⟨Y, _, none⟩) D.out _).trans (((cell_far (p := ⟨Y, _, none⟩) D.out _).trans (aI.2.1)))))), ((cell_far (p := ⟨Y, _, none⟩) D.out _).trans (((cell_far (p := ⟨Y, _, none⟩) D.out _).trans (((cell_far (p := ⟨Y, _, none⟩) D.out _).trans (aI.2.2.1)))))), ((cell_far (p := ⟨Y, _, none⟩) D.out _).trans (((cell_far (p := ⟨Y, _, none⟩) D.out _).trans (((cell_far (p := ⟨Y, _, none⟩) D.out _).trans (aI.2.2.2))))))⟩ (fun aI => ?_); clear hK K; refine done_ (done_of aJ.out (by kernel_rfl)) ?_
        try go_wp2
        go_loopg [7] k2 (fun kq v7 w' => ∃ (aa : Int) (av : List (List Int)) (aY : Value), v7 = .int .i64 aa ∧ Aside0 (Fra.l1 kq (U.length : Int) aa ac U F ab aG a4 av = some (r1, r2, r3, r4)) ∧ Aside0 (kq ≤ k2) ∧ RA Kd.string 9 w' w (.slice cj aG.length ck) aG ∧ RA Kd.bool 4 w' w (.slice bJ a4.length bK) a4 ∧ Aside0 (Kd.S (Kd.slice 3 (Kd.int .i64)) 24 w' w.heap.size (fun _ => True) aY av) ∧ Aside0 (w'.heap[O]? = some (.cells #[(.slice aq ac.length ar), (.slice aw U.length ax), (.slice a6 F.length ay), (.slice aj ab.length ai)] 27 (0, 0))) ∧ Aside0 (w'.heap[al]? = some (.cells #[(.slice none 0 0), (.slice none 0 0), (.slice none 0 0)] 45 (0, 0))) ∧ Aside0 (w'.heap[Y]? = some (.cells #[(.slice cj aG.length ck), (.slice bJ a4.length bK), aY] 45 (0, 0))) ∧ BA w w')
        case atStart => exact ⟨(0), (([] : List (List Int))), (.slice none 0 0), sI, H', ⟨Nat.le_refl _⟩, ⟨rZ Z G⟩, ⟨rZ aA G⟩, ⟨by first | exact Kd.S_nil _ _ _ _ _ | exact Kd.N_nil _ _ _ _ _ | exact Kd.V_nil _ _ _ _ _ | exact Kd.Q_nil _ _ _ _ _ | exact Kd.R_nil _ _ _ _ _⟩, ⟨kN z D⟩, ⟨kN A I⟩, ⟨by (with_reducible repeat (first | refine blk_drewN ?_ _ | refine blk_drew ?_ | refine blk_alloc ?_ _)); exact blk_put (blk_put (blk_put G.out 0 _ rfl) 1 _ rfl) 2 _ rfl⟩, bT3 HB B E J⟩
        case round =>
         clear H'
         obtain ⟨aa, av, aY, rfl, HA, cv, ae, af, V, z, A, G, HB⟩ := hrel; cases gk with
         | zero => exact absurd HA.out (by simp [Fra.l1])
         | succ k3 =>
          have H := HA.out; clear HA; simp only [Fra.l1] at H
          apply iB H <;> clear H <;> intro b9 H
          ·have dY := dT b9; clear b9
           apply iN H; clear H; intro dg H; have gf := dT dg; clear dg
           apply iN H; clear H; intro dh H; have gg := dT dh; clear dh; obtain ⟨ag, bt⟩ : ∃ j_ : Int, (wrap64 (aa + 1)) = j_ := ⟨_, rfl⟩
           first | rw [bt] at H | simp only [bt] at H
           have hji57w : (IntKind.i64.wrap (aa + 1)) = ag := (i64_w _).trans bt
           apply iN H; clear H; intro di H; have gh := dT di; clear di
           apply iN H; clear H; intro dj H; have gi := dT dj; clear dj
           apply iN H; clear H; intro cz H; have gj := eq_true cz; have gl := dT cz; clear cz
           apply iN H; clear H; intro cA H; have gm := eq_true cA; have gn := dT cA; clear cA
           apply iN H; clear H; intro cC H; have go := eq_true cC; have gp := dT cC; clear cC; obtain ⟨au, bU⟩ : ∃ y_ : List (S73), y_ = ((ab.take ((rd F (ag)) : Int).toNat).drop ((rd F aa) : Int).toNat) := ⟨_, rfl⟩
           first | replace H := rI bU H | rw [← bU] at H
           have bu := aM bU; clear bU
           apply iB H <;> clear H <;> intro ca H
           ·have dZ := dT ca; have d0 : decide (32 < au.length) = true := dT (by omega); clear ca; obtain ⟨rfl, rfl, rfl, rfl⟩ := pE4 H
            try go_wp2
            replace ae := aM (Kd.R_drew ae.out); replace af := aM (Kd.R_drew af.out); replace V := aM (Kd.S_drew V.out); replace z := kD z; replace A := kD A; replace G := kD G; replace HB := aM (below_drew1 HB.out); have ba : 0 ≤ (aa : Int) := oT aO; have bb : aa < (F.length : Int) := oT aO; obtain ⟨aC, bZ, an⟩ := Kd.at_int aK.out aa ba bb; have aV := an; cases bZ; replace an := cX HB an; replace ba := eq_true ba; replace bb := eq_true bb; have bc : 0 ≤ ((ag) : Int) := oT aO; have bd : (ag) < (F.length : Int) := oT aO; obtain ⟨bH, b0, ao⟩ := Kd.at_int aK.out (ag) bc bd; have aW := ao; obtain rfl := sJJ b0; replace ao := cX HB ao; replace bc := eq_true bc; replace bd := eq_true bd; have dB : ((rd F (ag)) : Int) ≤ ((ab.length : Int) : Int) := oT aO; obtain ⟨i065, dk, _, hsz65, _⟩ := info_parts info73; have bv : ab.length ≤ ai := cf.out; have hC65 : Kd.C k73 _ aj ab.length ab := ce.out; have ql65 : ((rd F aa) : Int) ≤ ((rd F (ag)) : Int) := oT aO; have ej : (0 : Int) ≤ ((rd F aa) : Int) := oT aO; have hcut65 := cut_mid (P := Try.prog) 25 73 .i64 .i64 Try.underlying25 dk 3 hsz65 aj ab.length ai (rd F aa) (rd F (ag)) ej ql65 dB bv; have b1 := Kd.C_mid (lo := ((rd F aa) : Int).toNat) (hi := ((rd F (ag)) : Int).toNat) (c := ai) hC65 (by omega) (by omega) bv; obtain ⟨fP, cl⟩ : ∃ A1, A1 = (if ai = ((rd F aa) : Int).toNat then aj else (aj : Option Addr).map (·.add (((rd F aa) : Int).toNat * 3))) := ⟨_, rfl⟩; obtain ⟨fQ, cK⟩ : ∃ c1, c1 = ai - ((rd F aa) : Int).toNat := ⟨_, rfl⟩; have cm : au.length = ((rd F (ag)) : Int).toNat - ((rd F aa) : Int).toNat := (by rw [bu.out, List.length_drop, List.length_take] <;> omega); rw [show ((ab).take ((rd F (ag)) : Int).toNat).drop ((rd F aa) : Int).toNat = au from bu.out.symm] at b1; replace b1 : Kd.C k73 _ fP au.length au := (by rw [cl]; exact b1); rw [← cm, ← cl, ← cK] at hcut65; have bf := aM b1; have bI := aM (show au.length ≤ fQ from by rw [cm, cK]; exact Nat.sub_le_sub_right (Nat.le_trans (by omega) bv) _); clear b1 hC65 bv dk hsz65 cK; have KY65 := aM cm; have KA65 := aM cl; clear cm cl; replace dB := eq_true dB; refine start_ (n := 15) (S := fun w' => w'.cell? ⟨O, 0, none⟩ = some (.slice aq ac.length ar) ∧ w'.cell? ⟨O, 1, none⟩ = some (.slice aw U.length ax) ∧ w'.cell? ⟨O, 2, none⟩ = some (.slice (some aC) F.length ay) ∧ w'.cell? ⟨O, 3, none⟩ = some (.slice aj ab.length ai) ∧ w'.cell? (aC.add (aa).toNat) = some (.int .i64 (rd F aa)) ∧ w'.cell? (aC.add ((ag)).toNat) = some (.int .i64 (rd F (ag)))) (ds := []) (bl 15 0) (by kernel_rfl) rfl rfl ⟨(blk_cell z.out 0).trans rfl, (blk_cell z.out 1).trans rfl, (blk_cell z.out 2).trans rfl, (blk_cell z.out 3).trans rfl, ((HB.out.cell (World.block_lt_of_cell? w _ aV)).trans aV), ((HB.out.cell (World.block_lt_of_cell? w _ aW)).trans aW)⟩ (fun aI => ?_); refine with_tabW Fra.tab13 Fra.bits13 (fun aJ a7 => ?_); generalize wr.drew = g4 at ae af V z A G HB bf an ao aI ⊢; refine pu_ 0 78 (bl 15 1) aJ ?_; refine pu_ 2 80 (bl 15 5) aJ ?_; refine pu_ 4 82 (bl 15 21) aJ ?_; refine pu_ 7 85 (bl 15 149) aJ ?_; refine pu_ 9 87 (bl 15 661) aJ ?_; refine pu_ 10 88 (bl 15 1685) aJ ?_; refine tk6_ 1 79 (bl 15 1687) aJ a7 aI ?_; refine tk6_ 3 81 (bl 15 1695) aJ a7 aI ?_; refine pu_ 5 83 (bl 15 1727) aJ ?_; refine tk6_ 6 84 (bl 15 1791) aJ a7 aI ?_; refine tk6_ 8 86 (bl 15 2047) aJ a7 aI ?_; refine pu_ 11 89 (bl 15 4095) aJ ?_; refine tk6_ 12 90 (bl 15 8191) aJ a7 aI ?_; refine pu_ 13 91 (bl 15 16383) aJ ?_; refine pu_ 14 8 (bl 15 32767) aJ ?_; refine done_ (done_of aJ.out (by kernel_rfl)) ?_; have gq := aE.out; have gr := aD.out; have gs := I.out; have gt := L.out; obtain ⟨eH, eI, eJ, eK, eL, eM⟩ := bG3 A
            try go_wp2
            refine bodyPost_ret (results_ct rfl _ _ al 45 #[.slice none 0 0, .slice none 0 0, .slice none 0 0] (0, 0) _ rfl (by (with_reducible repeat (first | refine blk_drewN ?_ _ | refine blk_drew ?_ | refine blk_alloc ?_ _)); exact blk_put (blk_put (blk_put A.out 0 _ rfl) 1 _ rfl) 2 _ rfl) Try.underlying45 rfl (by kernel_rfl)) rfl ?_; exact ⟨_, _, _, by first | rfl | (simp [errW_none, errW_some] <;> rfl) | (simp only [← bt]; first | rfl | (simp [errW_none, errW_some] <;> rfl)) | (simp [*, errW_none, errW_some] <;> rfl), by first | exact Kd.R_nil _ _ _ _ _ | exact Kd.N_nil _ _ _ _ _ | exact Kd.V_nil _ _ _ _ _ | exact Kd.Q_nil _ _ _ _ _ | exact Kd.S_nil _ _ _ _ _, by first | exact Kd.R_nil _ _ _ _ _ | exact Kd.N_nil _ _ _ _ _ | exact Kd.V_nil _ _ _ _ _ | exact Kd.Q_nil _ _ _ _ _ | exact Kd.S_nil _ _ _ _ _, by first | exact Kd.S_nil _ _ _ _ _ | exact Kd.N_nil _ _ _ _ _ | exact Kd.V_nil _ _ _ _ _ | exact Kd.Q_nil _ _ _ _ _ | exact Kd.R_nil _ _ _ _ _, bS3 HB.out B.out E.out J.out⟩
           ·have dZ := decide_eq_false ca; have d0 : decide (32 < au.length) = false := decide_eq_false (by omega); clear ca; apply bSx H; clear H; intro ek ec H
            by_cases dl : ek = true
            ·subst dl
             rw [if_pos rfl] at H; replace H := Option.bind_eq_some_iff.mp H; obtain ⟨⟨bL, el⟩, dF, H⟩ := H; replace H : (if av.length < 5864062014805 then (Fra.l1 k3 (U.length : Int) ag ac U F ab aG a4 (av ++ [bL])) else (none)) = some (r1, r2, r3, r4) := H; have fR := aM dF; clear dF
             apply iN H; clear H; intro dm H; have d1 := aM dm; clear dm; obtain ⟨dG, bV⟩ : ∃ y_ : List (List Int), y_ = (av ++ [bL]) := ⟨_, rfl⟩
             first | replace H := rI bV H | rw [← bV] at H
             have d2 := aM bV; clear bV; have H' := aM H; clear H
             try go_wp2
             replace ae := aM (Kd.R_drew ae.out); replace af := aM (Kd.R_drew af.out); replace V := aM (Kd.S_drew V.out); replace z := kD z; replace A := kD A; replace G := kD G; replace HB := aM (below_drew1 HB.out); have ba : 0 ≤ (aa : Int) := oT aO; have bb : aa < (F.length : Int) := oT aO; obtain ⟨aC, bZ, an⟩ := Kd.at_int aK.out aa ba bb; have aV := an; cases bZ; replace an := cX HB an; replace ba := eq_true ba; replace bb := eq_true bb; have bc : 0 ≤ ((ag) : Int) := oT aO; have bd : (ag) < (F.length : Int) := oT aO; obtain ⟨bH, b0, ao⟩ := Kd.at_int aK.out (ag) bc bd; have aW := ao; obtain rfl := sJJ b0; replace ao := cX HB ao; replace bc := eq_true bc; replace bd := eq_true bd; have dH : ((rd F (ag)) : Int) ≤ ((ab.length : Int) : Int) := oT aO; obtain ⟨i074, dn, _, hsz74, _⟩ := info_parts info73; have bw : ab.length ≤ ai := cf.out; have hC74 : Kd.C k73 _ aj ab.length ab := ce.out; have ql74 : ((rd F aa) : Int) ≤ ((rd F (ag)) : Int) := oT aO; have em : (0 : Int) ≤ ((rd F aa) : Int) := oT aO; have hcut74 := cut_mid (P := Try.prog) 25 73 .i64 .i64 Try.underlying25 dn 3 hsz74 aj ab.length ai (rd F aa) (rd F (ag)) em ql74 dH bw; have b2 := Kd.C_mid (lo := ((rd F aa) : Int).toNat) (hi := ((rd F (ag)) : Int).toNat) (c := ai) hC74 (by omega) (by omega) bw; obtain ⟨ed, cn⟩ : ∃ A1, A1 = (if ai = ((rd F aa) : Int).toNat then aj else (aj : Option Addr).map (·.add (((rd F aa) : Int).toNat * 3))) := ⟨_, rfl⟩; obtain ⟨ee, cL⟩ : ∃ c1, c1 = ai - ((rd F aa) : Int).toNat := ⟨_, rfl⟩; have co : au.length = ((rd F (ag)) : Int).toNat - ((rd F aa) : Int).toNat := (by rw [bu.out, List.length_drop, List.length_take] <;> omega); rw [show ((ab).take ((rd F (ag)) : Int).toNat).drop ((rd F aa) : Int).toNat = au from bu.out.symm] at b2; replace b2 : Kd.C k73 _ ed au.length au := (by rw [cn]; exact b2); rw [← co, ← cn, ← cL] at hcut74; have bf := aM b2; have bI := aM (show au.length ≤ ee from by rw [co, cL]; exact Nat.sub_le_sub_right (Nat.le_trans (by omega) bw) _); clear b2 hC74 bw dn hsz74 cL; have KY74 := aM co; have KA74 := aM cn; clear co cn; replace dH := eq_true dH; refine start_ (n := 15) (S := fun w' => w'.cell? ⟨O, 0, none⟩ = some (.slice aq ac.length ar) ∧ w'.cell? ⟨O, 1, none⟩ = some (.slice aw U.length ax) ∧ w'.cell? ⟨O, 2, none⟩ = some (.slice (some aC) F.length ay) ∧ w'.cell? ⟨O, 3, none⟩ = some (.slice aj ab.length ai) ∧ w'.cell? (aC.add (aa).toNat) = some (.int .i64 (rd F aa)) ∧ w'.cell? (aC.add ((ag)).toNat) = some (.int .i64 (rd F (ag)))) (ds := []) (bl 15 0) (by kernel_rfl) rfl rfl ⟨(blk_cell z.out 0).trans rfl, (blk_cell z.out 1).trans rfl, (blk_cell z.out 2).trans rfl, (blk_cell z.out 3).trans rfl, ((HB.out.cell (World.block_lt_of_cell? w _ aV)).trans aV), ((HB.out.cell (World.block_lt_of_cell? w _ aW)).trans aW)⟩ (fun aI => ?_); refine with_tabW Fra.tab13 Fra.bits13 (fun aJ a7 => ?_); generalize wr.drew = g5 at ae af V z A G HB bf an ao aI ⊢; refine pu_ 0 78 (bl 15 1) aJ ?_; refine pu_ 2 80 (bl 15 5) aJ ?_; refine pu_ 4 82 (bl 15 21) aJ ?_; refine pu_ 7 85 (bl 15 149) aJ ?_; refine pu_ 9 87 (bl 15 661) aJ ?_; refine pu_ 10 88 (bl 15 1685) aJ ?_; refine tk6_ 1 79 (bl 15 1687) aJ a7 aI ?_; refine tk6_ 3 81 (bl 15 1695) aJ a7 aI ?_; refine pu_ 5 83 (bl 15 1727) aJ ?_; refine tk6_ 6 84 (bl 15 1791) aJ a7 aI ?_; refine tk6_ 8 86 (bl 15 2047) aJ a7 aI ?_; refine pu_ 11 89 (bl 15 4095) aJ ?_; refine tk6_ 12 90 (bl 15 8191) aJ a7 aI ?_; refine pu_ 13 91 (bl 15 16383) aJ ?_; refine pu_ 14 8 (bl 15 32767) aJ ?_; refine done_ (done_of aJ.out (by kernel_rfl)) ?_; have gu := aD.out; have gv := aE.out; have gw := D.out; have gx := M.out; obtain ⟨eN, eO, eP, eQ, eR, eS, eT, eU⟩ := bG4 z
             try go_wp2_with (first | (go_at_call 35; (with_reducible refine (Foc.calls k3 _ _ au (ac.length : Int) (U.length : Int) true _ ?s1 bI.out ec.out).mono ?_); (case s1 => exact cB bf HB); rintro e g6 ⟨rfl, hb⟩; replace ae := rB ae hb; replace af := rB af hb; replace V := aM (Kd.S_below (by (with_reducible repeat (first | apply Kd.S_alloc | apply Kd.S_drewN | apply Kd.S_drew)); exact V.out) hb); replace z := kB z hb; replace A := kB A hb; replace G := kB G hb; replace HB := hS3 HB B E J hb; obtain ⟨eV, eX, eY, eZ, e0, e1, e2, e3⟩ := bG4 z) | ((with_reducible refine gate_callee (f := 36) rfl ?_); refine gL_ (some 110) Try.func36 #[.slice ed au.length ee, .int .i64 (ac.length : Int)] ?_; (with_reducible refine (Fpb.calls k3 _ _ au (ac.length : Int) bL el _ ?s1 bI.out fR.out).mono ?_); (case s1 => exact cB bf HB); rintro e g7 ⟨gR, rfl, dI, hb⟩; refine ⟨_, rfl, ?_⟩; replace ae := rB ae hb; replace af := rB af hb; replace V := aM (Kd.S_elder' (by (with_reducible repeat (first | apply Kd.S_alloc | apply Kd.S_drewN | apply Kd.S_drew)); exact V.out) (Kd.R_base dI) hb); have bW := rW dI (bP3 HB B E J); replace z := kB z hb; replace A := kB A hb; replace G := kB G hb; replace HB := hS3 HB B E J hb; have gy := L.out; have gz := I.out; obtain ⟨e4, e5, e6, e7, e8, e9⟩ := bG3 G; obtain ⟨dJ, dK, rfl⟩ := sL bW) | ((with_reducible refine gate_builtin (b := .append) (xs := #[.tmp 114, .tmp 116]) rfl ?_); (try (refine gate_guard (by rfl) ?_; dsimp only)); at_builtin; refine Kd.S_append (Kd.slice 3 (Kd.int .i64)) (w0 := w) w.heap.size rfl (.tmp 114) (.tmp 116) 43 24 (.slice none 0 0) 24 rfl Try.underlying43 info24 rfl (by decide) (by omega) aY av bL [.slice dJ bL.length dK] (fun _ => True) (fun k_ => some k_ = (.slice dJ bL.length dK : Value).ownBlock) rfl rfl ?aP (fun k_ hk_ => ((Kd.R_mono (ok' := fun k_ => ((fun _ => True)) k_ ∧ some k_ ≠ (aY : Value).ownBlock) (Kd.R_apart' (bW.out) (Kd.S_typed V.out) (by decide)) (fun k_ hk => ⟨trivial, hk.2⟩))).1 k_ hk_.symm) ?aF ?aO ?aB ?aS ?aL ?_; (case aP => exact Kd.M_row (Kd.R_mono (Kd.R_tight rfl (Kd.R_mono (ok' := fun k_ => ((fun _ => True)) k_ ∧ some k_ ≠ (aY : Value).ownBlock) (Kd.R_apart' (bW.out) (Kd.S_typed V.out) (by decide)) (fun k_ hk => ⟨trivial, hk.2⟩))) (fun _ h_ => h_))); (case aB => exact (bP3 HB B E J)); (case aF => exact (fun _ _ => trivial)); (case aO => exact (by (with_reducible repeat (first | apply Kd.S_alloc | apply Kd.S_drewN | apply Kd.S_drew)); exact Kd.S_mono V.out (fun k_ hk => ⟨trivial, fun e_ => hk.2 e_⟩))); (case aS => exact (below_size (bP3 HB B E J))); (case aL => have := d1.out; omega); intro gS g8 ho hb hg hat; rw [← d2.out] at ho; replace ae := aM (Kd.R_over' (rP ae) (Kd.S_typed (by (with_reducible repeat (first | apply Kd.S_alloc | apply Kd.S_drewN | apply Kd.S_drew)); exact V.out)) (by decide) hg); replace af := aM (Kd.R_over' (rP af) (Kd.S_typed (by (with_reducible repeat (first | apply Kd.S_alloc | apply Kd.S_drewN | apply Kd.S_drew)); exact V.out)) (by decide) hg); replace z := aM (blk_grown (g := O) (o := .cells #[.slice aq ac.length ar, .slice aw U.length ax, .slice (some aC) F.length ay, .slice aj ab.length ai] 27 (0, 0)) (kO z.out) hg (Kd.S_ne V.out z.out (by decide))); replace A := aM (blk_grown (g := al) (o := .cells #[.slice none 0 0, .slice none 0 0, .slice none 0 0] 45 (0, 0)) (kO A.out) hg (Kd.S_ne V.out A.out (by decide))); replace G := aM (blk_grown (g := Y) (o := .cells #[.slice cj aG.length ck, .slice bJ a4.length bK, aY] 45 (0, 0)) (kO G.out) hg (Kd.S_ne V.out G.out (by decide))); replace HB := aM (hb); have dp := aM (ho); clear V; clear bW; clear ho hb hg hat; obtain ⟨eo, ep, er⟩ := Kd.S_slice dp.out; subst er; obtain ⟨fa, fb, fc, fd, fe, ff⟩ := bG3 G))
             go_roundg k3
             case measure => have := HJ1.out; have := cu.out; have := cv.out; omega
             case rel => exact ⟨(ag), (dG), (.slice eo dG.length ep), (by first | rfl | (simp; done) | (simp only [← bt] <;> (first | rfl | simp)) | (simp [*]; done)), H', ⟨by have := HJ1.out; have := cu.out; have := cv.out; omega⟩, ⟨rZ ae G⟩, ⟨rZ af G⟩, ⟨sZ dp G⟩, ⟨kN z D⟩, ⟨kN A I⟩, ⟨by (with_reducible repeat (first | refine blk_drewN ?_ _ | refine blk_drew ?_ | refine blk_alloc ?_ _)); exact blk_put G.out 2 _ rfl⟩, bT3 HB B E J⟩
            ·replace dl := Bool.eq_false_iff.mpr dl; subst dl
             rw [if_neg nF] at H; obtain ⟨rfl, rfl, rfl, rfl⟩ := pE4 H
             try go_wp2
             replace ae := aM (Kd.R_drew ae.out); replace af := aM (Kd.R_drew af.out); replace V := aM (Kd.S_drew V.out); replace z := kD z; replace A := kD A; replace G := kD G; replace HB := aM (below_drew1 HB.out); have ba : 0 ≤ (aa : Int) := oT aO; have bb : aa < (F.length : Int) := oT aO; obtain ⟨aC, bZ, an⟩ := Kd.at_int aK.out aa ba bb; have aV := an; cases bZ; replace an := cX HB an; replace ba := eq_true ba; replace bb := eq_true bb; have bc : 0 ≤ ((ag) : Int) := oT aO; have bd : (ag) < (F.length : Int) := oT aO; obtain ⟨bH, b0, ao⟩ := Kd.at_int aK.out (ag) bc bd; have aW := ao; obtain rfl := sJJ b0; replace ao := cX HB ao; replace bc := eq_true bc; replace bd := eq_true bd; have dL : ((rd F (ag)) : Int) ≤ ((ab.length : Int) : Int) := oT aO; obtain ⟨i088, dq, _, hsz88, _⟩ := info_parts info73; have bx : ab.length ≤ ai := cf.out; have hC88 : Kd.C k73 _ aj ab.length ab := ce.out; have ql88 : ((rd F aa) : Int) ≤ ((rd F (ag)) : Int) := oT aO; have es : (0 : Int) ≤ ((rd F aa) : Int) := oT aO; have hcut88 := cut_mid (P := Try.prog) 25 73 .i64 .i64 Try.underlying25 dq 3 hsz88 aj ab.length ai (rd F aa) (rd F (ag)) es ql88 dL bx; have b3 := Kd.C_mid (lo := ((rd F aa) : Int).toNat) (hi := ((rd F (ag)) : Int).toNat) (c := ai) hC88 (by omega) (by omega) bx; obtain ⟨fS, cp⟩ : ∃ A1, A1 = (if ai = ((rd F aa) : Int).toNat then aj else (aj : Option Addr).map (·.add (((rd F aa) : Int).toNat * 3))) := ⟨_, rfl⟩; obtain ⟨fT, cM⟩ : ∃ c1, c1 = ai - ((rd F aa) : Int).toNat := ⟨_, rfl⟩; have cq : au.length = ((rd F (ag)) : Int).toNat - ((rd F aa) : Int).toNat := (by rw [bu.out, List.length_drop, List.length_take] <;> omega); rw [show ((ab).take ((rd F (ag)) : Int).toNat).drop ((rd F aa) : Int).toNat = au from bu.out.symm] at b3; replace b3 : Kd.C k73 _ fS au.length au := (by rw [cp]; exact b3); rw [← cq, ← cp, ← cM] at hcut88; have bf := aM b3; have bI := aM (show au.length ≤ fT from by rw [cq, cM]; exact Nat.sub_le_sub_right (Nat.le_trans (by omega) bx) _); clear b3 hC88 bx dq hsz88 cM; have KY88 := aM cq; have KA88 := aM cp; clear cq cp; replace dL := eq_true dL; refine start_ (n := 15) (S := fun w' => w'.cell? ⟨O, 0, none⟩ = some (.slice aq ac.length ar) ∧ w'.cell? ⟨O, 1, none⟩ = some (.slice aw U.length ax) ∧ w'.cell? ⟨O, 2, none⟩ = some (.slice (some aC) F.length ay) ∧ w'.cell? ⟨O, 3, none⟩ = some (.slice aj ab.length ai) ∧ w'.cell? (aC.add (aa).toNat) = some (.int .i64 (rd F aa)) ∧ w'.cell? (aC.add ((ag)).toNat) = some (.int .i64 (rd F (ag)))) (ds := []) (bl 15 0) (by kernel_rfl) rfl rfl ⟨(blk_cell z.out 0).trans rfl, (blk_cell z.out 1).trans rfl, (blk_cell z.out 2).trans rfl, (blk_cell z.out 3).trans rfl, ((HB.out.cell (World.block_lt_of_cell? w _ aV)).trans aV), ((HB.out.cell (World.block_lt_of_cell? w _ aW)).trans aW)⟩ (fun aI => ?_); refine with_tabW Fra.tab13 Fra.bits13 (fun aJ a7 => ?_); generalize wr.drew = g9 at ae af V z A G HB bf an ao aI ⊢; refine pu_ 0 78 (bl 15 1) aJ ?_; refine pu_ 2 80 (bl 15 5) aJ ?_; refine pu_ 4 82 (bl 15 21) aJ ?_; refine pu_ 7 85 (bl 15 149) aJ ?_; refine pu_ 9 87 (bl 15 661) aJ ?_; refine pu_ 10 88 (bl 15 1685) aJ ?_; refine tk6_ 1 79 (bl 15 1687) aJ a7 aI ?_; refine tk6_ 3 81 (bl 15 1695) aJ a7 aI ?_; refine pu_ 5 83 (bl 15 1727) aJ ?_; refine tk6_ 6 84 (bl 15 1791) aJ a7 aI ?_; refine tk6_ 8 86 (bl 15 2047) aJ a7 aI ?_; refine pu_ 11 89 (bl 15 4095) aJ ?_; refine tk6_ 12 90 (bl 15 8191) aJ a7 aI ?_; refine pu_ 13 91 (bl 15 16383) aJ ?_; refine pu_ 14 8 (bl 15 32767) aJ ?_; refine done_ (done_of aJ.out (by kernel_rfl)) ?_; have gA := aD.out; have gB := aE.out; have gC := D.out; have gD := M.out; obtain ⟨fg, fh, fi, fj, fk, fl, fm, fn⟩ := bG4 z
             try go_wp2_with (first | (go_at_call 35; (with_reducible refine (Foc.calls k3 _ _ au (ac.length : Int) (U.length : Int) false _ ?s1 bI.out ec.out).mono ?_); (case s1 => exact cB bf HB); rintro e ha ⟨rfl, hb⟩; replace ae := rB ae hb; replace af := rB af hb; replace V := aM (Kd.S_below (by (with_reducible repeat (first | apply Kd.S_alloc | apply Kd.S_drewN | apply Kd.S_drew)); exact V.out) hb); replace z := kB z hb; replace A := kB A hb; replace G := kB G hb; replace HB := hS3 HB B E J hb; have gF := I.out; have gG := L.out; obtain ⟨fo, fp, fq, fr, fs, ft⟩ := bG3 A))
             refine bodyPost_ret (results_ct rfl _ _ al 45 #[.slice none 0 0, .slice none 0 0, .slice none 0 0] (0, 0) _ rfl (by (with_reducible repeat (first | refine blk_drewN ?_ _ | refine blk_drew ?_ | refine blk_alloc ?_ _)); exact blk_put (blk_put (blk_put A.out 0 _ rfl) 1 _ rfl) 2 _ rfl) Try.underlying45 rfl (by kernel_rfl)) rfl ?_; exact ⟨_, _, _, by first | rfl | (simp [errW_none, errW_some] <;> rfl) | (simp only [← bt]; first | rfl | (simp [errW_none, errW_some] <;> rfl)) | (simp [*, errW_none, errW_some] <;> rfl), by first | exact Kd.R_nil _ _ _ _ _ | exact Kd.N_nil _ _ _ _ _ | exact Kd.V_nil _ _ _ _ _ | exact Kd.Q_nil _ _ _ _ _ | exact Kd.S_nil _ _ _ _ _, by first | exact Kd.R_nil _ _ _ _ _ | exact Kd.N_nil _ _ _ _ _ | exact Kd.V_nil _ _ _ _ _ | exact Kd.Q_nil _ _ _ _ _ | exact Kd.S_nil _ _ _ _ _, by first | exact Kd.S_nil _ _ _ _ _ | exact Kd.N_nil _ _ _ _ _ | exact Kd.V_nil _ _ _ _ _ | exact Kd.Q_nil _ _ _ _ _ | exact Kd.R_nil _ _ _ _ _, bS3 HB.out B.out E.out J.out⟩
          ·have dY := decide_eq_false b9; clear b9; obtain ⟨rfl, rfl, rfl, rfl⟩ := pE4 H; have gH := M.out; have gI := D.out; have gJ := L.out; have gK := I.out; obtain ⟨fu, fv, fw, fx, fy, fz⟩ := bG3 G; have gL := aE.out; have gM := aD.out; obtain ⟨fA, fB, fC, fD, fE, fF⟩ := bG3 A; obtain ⟨d3, d4, d5⟩ := Kd.S_slice V.out; subst d5
           go_wp2
           refine bodyPost_ret (results_ct rfl _ _ al 45 #[.slice cj aG.length ck, .slice bJ a4.length bK, .slice d3 av.length d4] (0, 0) _ rfl (by (with_reducible repeat (first | refine blk_drewN ?_ _ | refine blk_drew ?_ | refine blk_alloc ?_ _)); exact blk_put (blk_put (blk_put A.out 0 _ rfl) 1 _ rfl) 2 _ rfl) Try.underlying45 rfl (by kernel_rfl)) rfl ?_; exact ⟨_, _, _, eW, rZ ae A, rZ af A, sZ V A, bS3 HB.out B.out E.out J.out⟩
       intro bz; refine join_ (σ := Value × Value × Value × Value) 2 (bl 11 511) (fun s_ => [(64, s_.1), (67, s_.2.1), (68, s_.2.2.1), (71, s_.2.2.2), (72, .agg #[s_.2.1, s_.2.2.2, .slice none 0 0])]) (fun s_ w' => (q_1 w') ∧ (RA Kd.string 9 w' w s_.2.1 aG) ∧ (RA Kd.bool 4 w' w s_.2.2.2 a4) ∧ (q_2 w') ∧ (q_3 w') ∧ BA w w') ?_ ?_
       ·clear z A HB; rintro ⟨ah, aH, ak, cJ⟩ hc ⟨aI, Z, aA, z, A, HB⟩; (try dsimp only at aI Z aA z A HB); obtain ⟨cN, cP, b4⟩ := sL aA
        (first | subst b4 | obtain ⟨rfl, rfl⟩ := iS b4)
        obtain ⟨bJ, bK, bY⟩ := sL Z
        (first | subst bY | obtain ⟨rfl, rfl⟩ := iS bY)
        refine norm_ (a' := ?_) ?_ ?_; rotate_left
        ·simp only [putAll, Act.put, sA, sB, sC]
         rfl
        refine one_ (i := 9) (N := some 6) (bl 11 1023) rfl rfl (one_of aJ.out (by kernel_rfl)) (by decide) (fun K hK => ?_); refine bs_ (cs := #[.slice none 0 0, .slice none 0 0, .slice none 0 0]) (t := 45) ?_; intro Y hg hd a8 hb; replace Z := rB Z hb; replace aA := rB aA hb; have G := aM (a8); have ad := gE hg (bP2 HB B E); have J := gE hg (bP2 HB B E); replace HB := hS2 HB B E hb; have D := nL hg z; have M := nG hg z; replace z := kB z hb; have I := nL hg A; have L := nG hg A; replace A := kB A hb; clear hb a8 hg; refine hK.out _ _ (bD4 z) (fun aI => ?_); clear hK K; refine nm_ 6 ?_; exact norm_ pO (bz (ah, .slice bJ aG.length bK, ak, .slice cN a4.length cP, Y) _ ⟨aI, rQ Z, rQ aA, kQ z, kQ A, kQ G, ad, J, D, M, I, L, bT3 HB B E J⟩)
       intro cD; refine join_ (σ := Value × Value × Value × Nat) 3 (bl 11 639) (fun s_ => [(64, s_.1), (67, s_.2.1), (68, s_.2.2.1), (6, .pointer (some ⟨s_.2.2.2, 0, none⟩))]) (fun s_ w' => (q_1 w') ∧ (RA Kd.string 9 w' w s_.2.1 aG) ∧ (RA Kd.bool 4 w' w s_.2.2.1 aU) ∧ (q_2 w') ∧ (q_3 w') ∧ (Aside0 (w'.heap[s_.2.2.2]? = some (.cells #[.slice none 0 0, .slice none 0 0, .slice none 0 0] 45 (0, 0)))) ∧ (Aside0 (w.heap.size ≤ s_.2.2.2)) ∧ (Aside0 (w.heap.size ≤ s_.2.2.2)) ∧ (Aside0 (O ≠ s_.2.2.2)) ∧ (Aside0 (s_.2.2.2 ≠ O)) ∧ (Aside0 (al ≠ s_.2.2.2)) ∧ (Aside0 (s_.2.2.2 ≠ al)) ∧ BA w w') ?_ ?_
       ·clear z A HB; rintro ⟨ah, aH, ak, Y⟩ dM ⟨aI, Z, Q, z, A, G, ad, J, D, M, I, L, HB⟩; (try dsimp only at aI Z Q z A G ad J D M I L HB); refine norm_ (a' := ?_) ?_ ?_; rotate_left
        ·simp only [putAll, Act.put, sA, sB, sC]
         rfl
        refine one_ (i := 7) (N := some 71) (bl 11 767) rfl rfl (one_of aJ.out (by kernel_rfl)) (by decide) (fun K hK => ?_); refine Kd.R_append_rows_step Kd.bool (w0 := w) w.heap.size (by rfl) (.tmp 68) (.tmp 70) 23 4 (.bool false) 1 rfl Try.underlying23 info4 rfl (by decide) (by omega) ak aU U _ _ _ (fun _ => True) (fun _ => False) rfl rfl ?aO ?aR (fun _ _ h => h) (fun _ h => h.elim) ?aF ?aB ?aS ?aL ?_
        (case aR => exact cO (Kd.C_below c2.out HB.out))
        (case aB => exact (bP3 HB B E J))
        (case aF => exact (fun _ _ => trivial))
        (case aO => exact (rP Q))
        (case aS => exact (below_size (bP3 HB B E J)))
        (case aL => have := de.out; omega)
        intro cJ he ho hb hg hat; rw [← df.out] at ho; replace z := kG z hg Q; replace A := kG A hg Q; replace Z := aM (Kd.R_over' (rP Z) (Kd.R_typed (rP Q)) (by decide) hg); replace G := kG G hg Q; replace HB := aM (hb); have aA := aM (ho); clear Q; clear ho hb hg hat; obtain ⟨cQ, cR, b5⟩ := sL aA
        (first | subst b5 | obtain ⟨rfl, rfl⟩ := iS b5)
        obtain ⟨cN, cP, b4⟩ := sL Z
        (first | subst b4 | obtain ⟨rfl, rfl⟩ := iS b4)
        refine hK.out _ _ (bD4 z) (fun aI => ?_); clear hK K; refine nm_ 71 ?_; refine pu_ 8 72 (bl 11 1023) aJ ?_; exact norm_ pO (bz (ah, .slice cN aG.length cP, ak, .slice cQ a4.length cR, Y) _ ⟨aI, rQ Z, rQ aA, kQ z, kQ A, kQ G, ad, J, D, M, I, L, bT3 HB B E J⟩)
       intro bp; refine join_ (σ := Value × Value × Value) 4 (bl 11 127) (fun s_ => [(64, s_.1), (67, s_.2.1), (68, s_.2.2)]) (fun s_ w' => (q_1 w') ∧ (RA Kd.string 9 w' w s_.2.1 aG) ∧ (RA Kd.bool 4 w' w s_.2.2 aU) ∧ (q_2 w') ∧ (q_3 w') ∧ BA w w') ?_ ?_
       ·clear z A HB; rintro ⟨ah, aH, ak⟩ dr ⟨aI, Z, Q, z, A, HB⟩; (try dsimp only at aI Z Q z A HB); refine norm_ (a' := ?_) ?_ ?_; rotate_left
        ·simp only [putAll, Act.put, sA, sB, sC]
         rfl
        refine two_ (i := 7) (j := 9) (Ni := some 71) (Nj := some 6) (bl 11 255) (bl 11 639) rfl rfl rfl rfl (two_of aJ.out (by kernel_rfl)) (by decide) (by decide) (fun K hK => ?_) (fun K hK => ?_)
        ·refine Kd.R_append_rows_step Kd.bool (w0 := w) w.heap.size (by rfl) (.tmp 68) (.tmp 70) 23 4 (.bool false) 1 rfl Try.underlying23 info4 rfl (by decide) (by omega) ak aU U _ _ _ (fun _ => True) (fun _ => False) rfl rfl ?aO ?aR (fun _ _ h => h) (fun _ h => h.elim) ?aF ?aB ?aS ?aL ?_
         (case aR => exact cO (Kd.C_below c2.out HB.out))
         (case aB => exact (bP2 HB B E))
         (case aF => exact (fun _ _ => trivial))
         (case aO => exact (rP Q))
         (case aS => exact (below_size (bP2 HB B E)))
         (case aL => have := de.out; omega)
         intro cJ dM ho hb hg hat; rw [← df.out] at ho; replace z := kG z hg Q; replace A := kG A hg Q; replace Z := aM (Kd.R_over' (rP Z) (Kd.R_typed (rP Q)) (by decide) hg); replace HB := aM (hb); have aA := aM (ho); clear Q; clear ho hb hg hat; obtain ⟨et, eu, dN⟩ := sL aA
         (first | subst dN | obtain ⟨rfl, rfl⟩ := iS dN)
         obtain ⟨cQ, cR, b5⟩ := sL Z
         (first | subst b5 | obtain ⟨rfl, rfl⟩ := iS b5)
         refine hK.out _ _ (bD4 z) (fun aI => ?_); clear hK K; refine nm_ 71 ?_; refine pu_ 8 72 (bl 11 511) aJ ?_; exact norm_ pO (cD (ah, .slice cQ aG.length cR, ak, .slice et a4.length eu) _ ⟨aI, rQ Z, rQ aA, kQ z, kQ A, bT2 HB B E⟩)
        ·refine bs_ (cs := #[.slice none 0 0, .slice none 0 0, .slice none 0 0]) (t := 45) ?_; intro Y hg dM a8 hb; replace Z := rB Z hb; replace Q := rB Q hb; have G := aM (a8); have ad := gE hg (bP2 HB B E); have J := gE hg (bP2 HB B E); replace HB := hS2 HB B E hb; have D := nL hg z; have M := nG hg z; replace z := kB z hb; have I := nL hg A; have L := nG hg A; replace A := kB A hb; clear hb a8 hg; refine hK.out _ _ (bD4 z) (fun aI => ?_); clear hK K; refine nm_ 6 ?_; exact norm_ pO (bp (ah, aH, ak, Y) _ ⟨aI, rQ Z, rQ Q, kQ z, kQ A, kQ G, ad, J, D, M, I, L, bT3 HB B E J⟩)
       intro cb; refine join_ (σ := Value × Value × Nat) 4 (bl 11 623) (fun s_ => [(64, s_.1), (67, s_.2.1), (6, .pointer (some ⟨s_.2.2, 0, none⟩))]) (fun s_ w' => (q_1 w') ∧ (RA Kd.string 9 w' w s_.2.1 aG) ∧ (q_2 w') ∧ (q_3 w') ∧ (Aside0 (w'.heap[s_.2.2]? = some (.cells #[.slice none 0 0, .slice none 0 0, .slice none 0 0] 45 (0, 0)))) ∧ (Aside0 (w.heap.size ≤ s_.2.2)) ∧ (Aside0 (w.heap.size ≤ s_.2.2)) ∧ (Aside0 (O ≠ s_.2.2)) ∧ (Aside0 (s_.2.2 ≠ O)) ∧ (Aside0 (al ≠ s_.2.2)) ∧ (Aside0 (s_.2.2 ≠ al)) ∧ BA w w') ?_ ?_
       ·clear z A HB; rintro ⟨ah, aH, Y⟩ cc ⟨aI, Z, z, A, G, ad, J, D, M, I, L, HB⟩; (try dsimp only at aI Z z A G ad J D M I L HB); refine norm_ (a' := ?_) ?_ ?_; rotate_left
        ·simp only [putAll, Act.put, sA, sB, sC]
         rfl
        refine one_ (i := 4) (N := some 68) (bl 11 639) rfl rfl (one_of aJ.out (by kernel_rfl)) (by decide) (fun K hK => ?_); refine lt_ Kd.bool 4 68 ([] : List Bool) [] (Reps.none _ _) ?_; intro ak dr cr hb
        replace cr := nW bs cr
        replace Z := rB Z hb; have Q := rW cr (bP3 HB B E J); replace z := kB z hb; replace A := kB A hb; replace G := kB G hb; replace HB := hS3 HB B E J hb; clear hb cr; refine hK.out _ _ (bD4 z) (fun aI => ?_); clear hK K; refine nm_ 68 ?_; exact norm_ pO (bp (ah, aH, ak, Y) _ ⟨aI, rQ Z, rQ Q, kQ z, kQ A, kQ G, ad, J, D, M, I, L, bT3 HB B E J⟩)
       intro cd; refine join_ (σ := Value × Value × Nat) 4 (bl 11 631) (fun s_ => [(64, s_.1), (68, s_.2.1), (6, .pointer (some ⟨s_.2.2, 0, none⟩))]) (fun s_ w' => (q_1 w') ∧ (RA Kd.string 9 w' w s_.1 aZ) ∧ (RA Kd.bool 4 w' w s_.2.1 aU) ∧ (q_2 w') ∧ (q_3 w') ∧ (Aside0 (w'.heap[s_.2.2]? = some (.cells #[.slice none 0 0, .slice none 0 0, .slice none 0 0] 45 (0, 0)))) ∧ (Aside0 (w.heap.size ≤ s_.2.2)) ∧ (Aside0 (w.heap.size ≤ s_.2.2)) ∧ (Aside0 (O ≠ s_.2.2)) ∧ (Aside0 (s_.2.2 ≠ O)) ∧ (Aside0 (al ≠ s_.2.2)) ∧ (Aside0 (s_.2.2 ≠ al)) ∧ BA w w') ?_ ?_
       ·clear z A HB; rintro ⟨ah, ak, Y⟩ dr ⟨aI, W, Q, z, A, G, ad, J, D, M, I, L, HB⟩; (try dsimp only at aI W Q z A G ad J D M I L HB); refine norm_ (a' := ?_) ?_ ?_; rotate_left
        ·simp only [putAll, Act.put, sA, sB, sC]
         rfl
        refine one_ (i := 3) (N := some 67) (bl 11 639) rfl rfl (one_of aJ.out (by kernel_rfl)) (by decide) (fun K hK => ?_); refine Kd.R_append_rows_step Kd.string (w0 := w) w.heap.size (by rfl) (.tmp 64) (.tmp 66) 22 9 (.string ⟨#[]⟩) 16 rfl Try.underlying22 info9 rfl (by decide) (by omega) ah aZ ac _ _ _ (fun _ => True) (fun _ => False) rfl rfl ?aO ?aR (fun _ _ h => h) (fun _ h => h.elim) ?aF ?aB ?aS ?aL ?_
        (case aR => exact cO (Kd.C_below be.out HB.out))
        (case aB => exact (bP3 HB B E J))
        (case aF => exact (fun _ _ => trivial))
        (case aO => exact (rP W))
        (case aS => exact (below_size (bP3 HB B E J)))
        (case aL => have := bQ.out; omega)
        intro aH dM ho hb hg hat; rw [← bS.out] at ho; replace z := kG z hg W; replace A := kG A hg W; replace Q := aM (Kd.R_over' (rP Q) (Kd.R_typed (rP W)) (by decide) hg); replace G := kG G hg W; replace HB := aM (hb); have Z := aM (ho); clear W; clear ho hb hg hat; refine hK.out _ _ (bD4 z) (fun aI => ?_); clear hK K; refine nm_ 67 ?_; exact norm_ pO (bp (ah, aH, ak, Y) _ ⟨aI, rQ Z, rQ Q, kQ z, kQ A, kQ G, ad, J, D, M, I, L, bT3 HB B E J⟩)
       intro bM; refine join_ (σ := Value × Value) 5 (bl 11 111) (fun s_ => [(64, s_.1), (67, s_.2)]) (fun s_ w' => (q_1 w') ∧ (RA Kd.string 9 w' w s_.2 aG) ∧ (q_2 w') ∧ (q_3 w') ∧ BA w w') ?_ ?_
       ·clear z A HB; rintro ⟨ah, aH⟩ b6 ⟨aI, Z, z, A, HB⟩; (try dsimp only at aI Z z A HB); refine norm_ (a' := ?_) ?_ ?_; rotate_left
        ·simp only [putAll, Act.put, sA, sB, sC]
         rfl
        refine two_ (i := 4) (j := 9) (Ni := some 68) (Nj := some 6) (bl 11 127) (bl 11 623) rfl rfl rfl rfl (two_of aJ.out (by kernel_rfl)) (by decide) (by decide) (fun K hK => ?_) (fun K hK => ?_)
        ·refine lt_ Kd.bool 4 68 ([] : List Bool) [] (Reps.none _ _) ?_; intro ak cc aX hb
         replace aX := nW bs aX
         replace Z := rB Z hb; have Q := rW aX (bP2 HB B E); replace z := kB z hb; replace A := kB A hb; replace HB := hS2 HB B E hb; clear hb aX; refine hK.out _ _ (bD4 z) (fun aI => ?_); clear hK K; refine nm_ 68 ?_; exact norm_ pO (cb (ah, aH, ak) _ ⟨aI, rQ Z, rQ Q, kQ z, kQ A, bT2 HB B E⟩)
        ·refine bs_ (cs := #[.slice none 0 0, .slice none 0 0, .slice none 0 0]) (t := 45) ?_; intro Y hg cc a8 hb; replace Z := rB Z hb; have G := aM (a8); have ad := gE hg (bP2 HB B E); have J := gE hg (bP2 HB B E); replace HB := hS2 HB B E hb; have D := nL hg z; have M := nG hg z; replace z := kB z hb; have I := nL hg A; have L := nG hg A; replace A := kB A hb; clear hb a8 hg; refine hK.out _ _ (bD4 z) (fun aI => ?_); clear hK K; refine nm_ 6 ?_; exact norm_ pO (cd (ah, aH, Y) _ ⟨aI, rQ Z, kQ z, kQ A, kQ G, ad, J, D, M, I, L, bT3 HB B E J⟩)
       intro d6; refine join_ (σ := Value × Value) 5 (bl 11 119) (fun s_ => [(64, s_.1), (68, s_.2)]) (fun s_ w' => (q_1 w') ∧ (RA Kd.string 9 w' w s_.1 aZ) ∧ (RA Kd.bool 4 w' w s_.2 aU) ∧ (q_2 w') ∧ (q_3 w') ∧ BA w w') ?_ ?_
       ·clear z A HB; rintro ⟨ah, ak⟩ cc ⟨aI, W, Q, z, A, HB⟩; (try dsimp only at aI W Q z A HB); refine norm_ (a' := ?_) ?_ ?_; rotate_left
        ·simp only [putAll, Act.put, sA, sB, sC]
         rfl
        refine two_ (i := 3) (j := 9) (Ni := some 67) (Nj := some 6) (bl 11 127) (bl 11 631) rfl rfl rfl rfl (two_of aJ.out (by kernel_rfl)) (by decide) (by decide) (fun K hK => ?_) (fun K hK => ?_)
        ·refine Kd.R_append_rows_step Kd.string (w0 := w) w.heap.size (by rfl) (.tmp 64) (.tmp 66) 22 9 (.string ⟨#[]⟩) 16 rfl Try.underlying22 info9 rfl (by decide) (by omega) ah aZ ac _ _ _ (fun _ => True) (fun _ => False) rfl rfl ?aO ?aR (fun _ _ h => h) (fun _ h => h.elim) ?aF ?aB ?aS ?aL ?_
         (case aR => exact cO (Kd.C_below be.out HB.out))
         (case aB => exact (bP2 HB B E))
         (case aF => exact (fun _ _ => trivial))
         (case aO => exact (rP W))
         (case aS => exact (below_size (bP2 HB B E)))
         (case aL => have := bQ.out; omega)
         intro aH dr ho hb hg hat; rw [← bS.out] at ho; replace z := kG z hg W; replace A := kG A hg W; replace Q := aM (Kd.R_over' (rP Q) (Kd.R_typed (rP W)) (by decide) hg); replace HB := aM (hb); have Z := aM (ho); clear W; clear ho hb hg hat; refine hK.out _ _ (bD4 z) (fun aI => ?_); clear hK K; refine nm_ 67 ?_; exact norm_ pO (cb (ah, aH, ak) _ ⟨aI, rQ Z, rQ Q, kQ z, kQ A, bT2 HB B E⟩)
        ·refine bs_ (cs := #[.slice none 0 0, .slice none 0 0, .slice none 0 0]) (t := 45) ?_; intro Y hg dr a8 hb; replace W := rB W hb; replace Q := rB Q hb; have G := aM (a8); have ad := gE hg (bP2 HB B E); have J := gE hg (bP2 HB B E); replace HB := hS2 HB B E hb; have D := nL hg z; have M := nG hg z; replace z := kB z hb; have I := nL hg A; have L := nG hg A; replace A := kB A hb; clear hb a8 hg; refine hK.out _ _ (bD4 z) (fun aI => ?_); clear hK K; refine nm_ 6 ?_; exact norm_ pO (bM (ah, ak, Y) _ ⟨aI, rQ W, rQ Q, kQ z, kQ A, kQ G, ad, J, D, M, I, L, bT3 HB B E J⟩)
       intro dt; refine join_ (σ := Value × Nat) 5 (bl 11 615) (fun s_ => [(64, s_.1), (6, .pointer (some ⟨s_.2, 0, none⟩))]) (fun s_ w' => (q_1 w') ∧ (RA Kd.string 9 w' w s_.1 aZ) ∧ (q_2 w') ∧ (q_3 w') ∧ (Aside0 (w'.heap[s_.2]? = some (.cells #[.slice none 0 0, .slice none 0 0, .slice none 0 0] 45 (0, 0)))) ∧ (Aside0 (w.heap.size ≤ s_.2)) ∧ (Aside0 (w.heap.size ≤ s_.2)) ∧ (Aside0 (O ≠ s_.2)) ∧ (Aside0 (s_.2 ≠ O)) ∧ (Aside0 (al ≠ s_.2)) ∧ (Aside0 (s_.2 ≠ al)) ∧ BA w w') ?_ ?_
       ·clear z A HB; rintro ⟨ah, Y⟩ b6 ⟨aI, W, z, A, G, ad, J, D, M, I, L, HB⟩; (try dsimp only at aI W z A G ad J D M I L HB); refine norm_ (a' := ?_) ?_ ?_; rotate_left
        ·simp only [putAll, Act.put, sA, sB, sC]
         rfl
        refine two_ (i := 3) (j := 4) (Ni := some 67) (Nj := some 68) (bl 11 623) (bl 11 631) rfl rfl rfl rfl (two_of aJ.out (by kernel_rfl)) (by decide) (by decide) (fun K hK => ?_) (fun K hK => ?_)
        ·refine Kd.R_append_rows_step Kd.string (w0 := w) w.heap.size (by rfl) (.tmp 64) (.tmp 66) 22 9 (.string ⟨#[]⟩) 16 rfl Try.underlying22 info9 rfl (by decide) (by omega) ah aZ ac _ _ _ (fun _ => True) (fun _ => False) rfl rfl ?aO ?aR (fun _ _ h => h) (fun _ h => h.elim) ?aF ?aB ?aS ?aL ?_
         (case aR => exact cO (Kd.C_below be.out HB.out))
         (case aB => exact (bP3 HB B E J))
         (case aF => exact (fun _ _ => trivial))
         (case aO => exact (rP W))
         (case aS => exact (below_size (bP3 HB B E J)))
         (case aL => have := bQ.out; omega)
         intro aH cc ho hb hg hat; rw [← bS.out] at ho; replace z := kG z hg W; replace A := kG A hg W; replace G := kG G hg W; replace HB := aM (hb); have Z := aM (ho); clear W; clear ho hb hg hat; refine hK.out _ _ (bD4 z) (fun aI => ?_); clear hK K; refine nm_ 67 ?_; exact norm_ pO (cd (ah, aH, Y) _ ⟨aI, rQ Z, kQ z, kQ A, kQ G, ad, J, D, M, I, L, bT3 HB B E J⟩)
        ·refine lt_ Kd.bool 4 68 ([] : List Bool) [] (Reps.none _ _) ?_; intro ak cc aX hb
         replace aX := nW bs aX
         replace W := rB W hb; have Q := rW aX (bP3 HB B E J); replace z := kB z hb; replace A := kB A hb; replace G := kB G hb; replace HB := hS3 HB B E J hb; clear hb aX; refine hK.out _ _ (bD4 z) (fun aI => ?_); clear hK K; refine nm_ 68 ?_; exact norm_ pO (bM (ah, ak, Y) _ ⟨aI, rQ W, rQ Q, kQ z, kQ A, kQ G, ad, J, D, M, I, L, bT3 HB B E J⟩)
       intro du; refine join_ (σ := Value × Nat) 5 (bl 11 630) (fun s_ => [(68, s_.1), (6, .pointer (some ⟨s_.2, 0, none⟩))]) (fun s_ w' => (q_1 w') ∧ (RA Kd.bool 4 w' w s_.1 aU) ∧ (q_2 w') ∧ (q_3 w') ∧ (Aside0 (w'.heap[s_.2]? = some (.cells #[.slice none 0 0, .slice none 0 0, .slice none 0 0] 45 (0, 0)))) ∧ (Aside0 (w.heap.size ≤ s_.2)) ∧ (Aside0 (w.heap.size ≤ s_.2)) ∧ (Aside0 (O ≠ s_.2)) ∧ (Aside0 (s_.2 ≠ O)) ∧ (Aside0 (al ≠ s_.2)) ∧ (Aside0 (s_.2 ≠ al)) ∧ BA w w') ?_ ?_
       ·clear z A HB; rintro ⟨ak, Y⟩ b6 ⟨aI, Q, z, A, G, ad, J, D, M, I, L, HB⟩; (try dsimp only at aI Q z A G ad J D M I L HB); refine norm_ (a' := ?_) ?_ ?_; rotate_left
        ·simp only [putAll, Act.put, sA, sB, sC]
         rfl
        refine one_ (i := 0) (N := some 64) (bl 11 631) rfl rfl (one_of aJ.out (by kernel_rfl)) (by decide) (fun K hK => ?_); refine lt_ Kd.string 9 64 ([] : List ByteArray) [] (Reps.none _ _) ?_; intro ah cc aX hb
        replace aX := nW bP aX
        replace Q := rB Q hb; have W := rW aX (bP3 HB B E J); replace z := kB z hb; replace A := kB A hb; replace G := kB G hb; replace HB := hS3 HB B E J hb; clear hb aX; refine hK.out _ _ (bD4 z) (fun aI => ?_); clear hK K; refine nm_ 64 ?_; exact norm_ pO (bM (ah, ak, Y) _ ⟨aI, rQ W, rQ Q, kQ z, kQ A, kQ G, ad, J, D, M, I, L, bT3 HB B E J⟩)
       intro dv; refine join_ (σ := Value) 6 (bl 11 103) (fun s_ => [(64, s_)]) (fun s_ w' => (q_1 w') ∧ (RA Kd.string 9 w' w s_ aZ) ∧ (q_2 w') ∧ (q_3 w') ∧ BA w w') ?_ ?_
       ·clear z A HB; rintro ah dO ⟨aI, W, z, A, HB⟩; (try dsimp only at aI W z A HB); refine norm_ (a' := ?_) ?_ ?_; rotate_left
        ·simp only [putAll, Act.put, sA, sB, sC]
         rfl
        refine three_ (i := 3) (j := 4) (k := 9) (Ni := some 67) (Nj := some 68) (Nk := some 6) (bl 11 111) (bl 11 119) (bl 11 615) rfl rfl rfl rfl rfl rfl (three_of aJ.out (by kernel_rfl)) (by decide) (by decide) (by decide) (fun K hK => ?_) (fun K hK => ?_) (fun K hK => ?_)
        ·refine Kd.R_append_rows_step Kd.string (w0 := w) w.heap.size (by rfl) (.tmp 64) (.tmp 66) 22 9 (.string ⟨#[]⟩) 16 rfl Try.underlying22 info9 rfl (by decide) (by omega) ah aZ ac _ _ _ (fun _ => True) (fun _ => False) rfl rfl ?aO ?aR (fun _ _ h => h) (fun _ h => h.elim) ?aF ?aB ?aS ?aL ?_
         (case aR => exact cO (Kd.C_below be.out HB.out))
         (case aB => exact (bP2 HB B E))
         (case aF => exact (fun _ _ => trivial))
         (case aO => exact (rP W))
         (case aS => exact (below_size (bP2 HB B E)))
         (case aL => have := bQ.out; omega)
         intro aH b6 ho hb hg hat; rw [← bS.out] at ho; replace z := kG z hg W; replace A := kG A hg W; replace HB := aM (hb); have Z := aM (ho); clear W; clear ho hb hg hat; refine hK.out _ _ (bD4 z) (fun aI => ?_); clear hK K; refine nm_ 67 ?_; exact norm_ pO (d6 (ah, aH) _ ⟨aI, rQ Z, kQ z, kQ A, bT2 HB B E⟩)
        ·refine lt_ Kd.bool 4 68 ([] : List Bool) [] (Reps.none _ _) ?_; intro ak b6 bk hb
         replace bk := nW bs bk
         replace W := rB W hb; have Q := rW bk (bP2 HB B E); replace z := kB z hb; replace A := kB A hb; replace HB := hS2 HB B E hb; clear hb bk; refine hK.out _ _ (bD4 z) (fun aI => ?_); clear hK K; refine nm_ 68 ?_; exact norm_ pO (dt (ah, ak) _ ⟨aI, rQ W, rQ Q, kQ z, kQ A, bT2 HB B E⟩)
        ·refine bs_ (cs := #[.slice none 0 0, .slice none 0 0, .slice none 0 0]) (t := 45) ?_; intro Y hg b6 a8 hb; replace W := rB W hb; have G := aM (a8); have ad := gE hg (bP2 HB B E); have J := gE hg (bP2 HB B E); replace HB := hS2 HB B E hb; have D := nL hg z; have M := nG hg z; replace z := kB z hb; have I := nL hg A; have L := nG hg A; replace A := kB A hb; clear hb a8 hg; refine hK.out _ _ (bD4 z) (fun aI => ?_); clear hK K; refine nm_ 6 ?_; exact norm_ pO (du (ah, Y) _ ⟨aI, rQ W, kQ z, kQ A, kQ G, ad, J, D, M, I, L, bT3 HB B E J⟩)
       intro fU; refine join_ (σ := Value) 6 (bl 11 118) (fun s_ => [(68, s_)]) (fun s_ w' => (q_1 w') ∧ (RA Kd.bool 4 w' w s_ aU) ∧ (q_2 w') ∧ (q_3 w') ∧ BA w w') ?_ ?_
       ·clear z A HB; rintro ak dO ⟨aI, Q, z, A, HB⟩; (try dsimp only at aI Q z A HB); refine norm_ (a' := ?_) ?_ ?_; rotate_left
        ·simp only [putAll, Act.put, sA, sB, sC]
         rfl
        refine two_ (i := 0) (j := 9) (Ni := some 64) (Nj := some 6) (bl 11 119) (bl 11 630) rfl rfl rfl rfl (two_of aJ.out (by kernel_rfl)) (by decide) (by decide) (fun K hK => ?_) (fun K hK => ?_)
        ·refine lt_ Kd.string 9 64 ([] : List ByteArray) [] (Reps.none _ _) ?_; intro ah b6 bk hb
         replace bk := nW bP bk
         replace Q := rB Q hb; have W := rW bk (bP2 HB B E); replace z := kB z hb; replace A := kB A hb; replace HB := hS2 HB B E hb; clear hb bk; refine hK.out _ _ (bD4 z) (fun aI => ?_); clear hK K; refine nm_ 64 ?_; exact norm_ pO (dt (ah, ak) _ ⟨aI, rQ W, rQ Q, kQ z, kQ A, bT2 HB B E⟩)
        ·refine bs_ (cs := #[.slice none 0 0, .slice none 0 0, .slice none 0 0]) (t := 45) ?_; intro Y hg b6 a8 hb; replace Q := rB Q hb; have G := aM (a8); have ad := gE hg (bP2 HB B E); have J := gE hg (bP2 HB B E); replace HB := hS2 HB B E hb; have D := nL hg z; have M := nG hg z; replace z := kB z hb; have I := nL hg A; have L := nG hg A; replace A := kB A hb; clear hb a8 hg; refine hK.out _ _ (bD4 z) (fun aI => ?_); clear hK K; refine nm_ 6 ?_; exact norm_ pO (dv (ak, Y) _ ⟨aI, rQ Q, kQ z, kQ A, kQ G, ad, J, D, M, I, L, bT3 HB B E J⟩)
       intro fV; refine join_ (σ := Nat) 6 (bl 11 614) (fun s_ => [(6, .pointer (some ⟨s_, 0, none⟩))]) (fun s_ w' => (q_1 w') ∧ (q_2 w') ∧ (q_3 w') ∧ (Aside0 (w'.heap[s_]? = some (.cells #[.slice none 0 0, .slice none 0 0, .slice none 0 0] 45 (0, 0)))) ∧ (Aside0 (w.heap.size ≤ s_)) ∧ (Aside0 (w.heap.size ≤ s_)) ∧ (Aside0 (O ≠ s_)) ∧ (Aside0 (s_ ≠ O)) ∧ (Aside0 (al ≠ s_)) ∧ (Aside0 (s_ ≠ al)) ∧ BA w w') ?_ ?_
       ·clear z A HB; rintro Y hf ⟨aI, z, A, G, ad, J, D, M, I, L, HB⟩; (try dsimp only at aI z A G ad J D M I L HB); refine norm_ (a' := ?_) ?_ ?_; rotate_left
        ·simp only [putAll, Act.put, sA, sB, sC]
         rfl
        refine two_ (i := 0) (j := 4) (Ni := some 64) (Nj := some 68) (bl 11 615) (bl 11 630) rfl rfl rfl rfl (two_of aJ.out (by kernel_rfl)) (by decide) (by decide) (fun K hK => ?_) (fun K hK => ?_)
        ·refine lt_ Kd.string 9 64 ([] : List ByteArray) [] (Reps.none _ _) ?_; intro ah dO bm hb
         replace bm := nW bP bm
         have W := rW bm (bP3 HB B E J); replace z := kB z hb; replace A := kB A hb; replace G := kB G hb; replace HB := hS3 HB B E J hb; clear hb bm; refine hK.out _ _ (bD4 z) (fun aI => ?_); clear hK K; refine nm_ 64 ?_; exact norm_ pO (du (ah, Y) _ ⟨aI, rQ W, kQ z, kQ A, kQ G, ad, J, D, M, I, L, bT3 HB B E J⟩)
        ·refine lt_ Kd.bool 4 68 ([] : List Bool) [] (Reps.none _ _) ?_; intro ak dO bm hb
         replace bm := nW bs bm
         have Q := rW bm (bP3 HB B E J); replace z := kB z hb; replace A := kB A hb; replace G := kB G hb; replace HB := hS3 HB B E J hb; clear hb bm; refine hK.out _ _ (bD4 z) (fun aI => ?_); clear hK K; refine nm_ 68 ?_; exact norm_ pO (dv (ak, Y) _ ⟨aI, rQ Q, kQ z, kQ A, kQ G, ad, J, D, M, I, L, bT3 HB B E J⟩)
       intro fW; refine three_ (i := 0) (j := 4) (k := 9) (Ni := some 64) (Nj := some 68) (Nk := some 6) (bl 11 103) (bl 11 118) (bl 11 614) rfl rfl rfl rfl rfl rfl (three_of aJ.out (by kernel_rfl)) (by decide) (by decide) (by decide) (fun K hK => ?_) (fun K hK => ?_) (fun K hK => ?_)
       ·refine lt_ Kd.string 9 64 ([] : List ByteArray) [] (Reps.none _ _) ?_; intro ah ef bo hb
        replace bo := nW bP bo
        have W := rW bo (bP2 HB B E); replace z := kB z hb; replace A := kB A hb; replace HB := hS2 HB B E hb; clear hb bo; refine hK.out _ _ (bD4 z) (fun aI => ?_); clear hK K; refine nm_ 64 ?_; exact norm_ pO (fU (ah) _ ⟨aI, rQ W, kQ z, kQ A, bT2 HB B E⟩)
       ·refine lt_ Kd.bool 4 68 ([] : List Bool) [] (Reps.none _ _) ?_; intro ak ef bo hb
        replace bo := nW bs bo
        have Q := rW bo (bP2 HB B E); replace z := kB z hb; replace A := kB A hb; replace HB := hS2 HB B E hb; clear hb bo; refine hK.out _ _ (bD4 z) (fun aI => ?_); clear hK K; refine nm_ 68 ?_; exact norm_ pO (fV (ak) _ ⟨aI, rQ Q, kQ z, kQ A, bT2 HB B E⟩)
       ·refine bs_ (cs := #[.slice none 0 0, .slice none 0 0, .slice none 0 0]) (t := 45) ?_; intro Y hg ef a8 hb; have G := aM (a8); have ad := gE hg (bP2 HB B E); have J := gE hg (bP2 HB B E); replace HB := hS2 HB B E hb; have D := nL hg z; have M := nG hg z; replace z := kB z hb; have I := nL hg A; have L := nG hg A; replace A := kB A hb; clear hb a8 hg; refine hK.out _ _ (bD4 z) (fun aI => ?_); clear hK K; refine nm_ 6 ?_; exact norm_ pO (fW (Y) _ ⟨aI, kQ z, kQ A, kQ G, ad, J, D, M, I, L, bT3 HB B E J⟩)
mutual
def Fs.l0 : Nat → List Bool → List Bool → Int → List ByteArray → List Bool → List (List Int) → Option (List Bool)
 | 0, _, _, _, _, _, _ => none
 | k + 1, x1, x5, x6, x392000, x392001, x392002 => if x6 < (x1.length : Int) then (Fs.l1 k x1 x5 x6 0 x392000 x392001 x392002) else (some x5)
def Fs.l1 : Nat → List Bool → List Bool → Int → Int → List ByteArray → List Bool → List (List Int) → Option (List Bool)
 | 0, _, _, _, _, _, _, _ => none
 | k + 1, x1, x5, x6, x7, x392000, x392001, x392002 => if 0 ≤ x6 then (if x6 < (x392002.length : Int) then (if x7 < ((rd_L4 x392002 x6).length : Int) then (if x6 < (x5.length : Int) then (if rdOf false x5 x6 = true then (Fs.l1 k x1 (x5.set (x6 : Int).toNat true) x6 (wrap64 (x7 + 1)) x392000 x392001 x392002) else (if 0 ≤ x7 then (if 0 ≤ (rd (rd_L4 x392002 x6) x7) then (if (rd (rd_L4 x392002 x6) x7) < (x1.length : Int) then (Fs.l1 k x1 (x5.set (x6 : Int).toNat (rdOf false x1 (rd (rd_L4 x392002 x6) x7))) x6 (wrap64 (x7 + 1)) x392000 x392001 x392002) else (none)) else (none)) else (none))) else (none)) else (Fs.l0 k x1 x5 (wrap64 (x6 + 1)) x392000 x392001 x392002)) else (none)) else (none)
end
def Fs.f (k : Nat) (l0_0 : List ByteArray) (l0_1 : List Bool) (l0_2 : List (List Int)) (l1 : List Bool) : Option (List Bool) := if 0 ≤ (l1.length : Int) then (if ((l1.length : Int) : Int).toNat ≤ 281474976710656 then (Fs.l0 k l1 (List.replicate ((l1.length : Int) : Int).toNat false) 0 l0_0 l0_1 l0_2) else (none)) else (none)
theorem Fs.mono_l : ∀ k, (∀ y0 y1 y2 y3 y4 y5, LeO (Fs.l0 k y0 y1 y2 y3 y4 y5) (Fs.l0 (k + 1) y0 y1 y2 y3 y4 y5)) ∧ (∀ y0 y1 y2 y3 y4 y5 y6, LeO (Fs.l1 k y0 y1 y2 y3 y4 y5 y6) (Fs.l1 (k + 1) y0 y1 y2 y3 y4 y5 y6))
 | 0 => ⟨fun _ _ _ _ _ _ r h => by simp [Fs.l0] at h, fun _ _ _ _ _ _ _ r h => by simp [Fs.l1] at h⟩
 | k + 1 => by
  obtain ⟨ih0, ih1⟩ := Fs.mono_l k; refine ⟨?_, ?_⟩
  ·intro y0 y1 y2 y3 y4 y5
   unfold Fs.l0
   repeat' first | (with_reducible first | exact ih0 _ _ _ _ _ _ | exact ih1 _ _ _ _ _ _ _ | exact lA | apply lI | refine lB ?_ fun _ => ?_) | exact lN _ | apply lI | refine lB ?_ fun _ => ?_
  ·intro y0 y1 y2 y3 y4 y5 y6
   unfold Fs.l1
   repeat' first | (with_reducible first | exact ih0 _ _ _ _ _ _ | exact ih1 _ _ _ _ _ _ _ | exact lA | apply lI | refine lB ?_ fun _ => ?_) | exact lN _ | apply lI | refine lB ?_ fun _ => ?_
theorem Fs.mono : ∀ a0 a1 a2 a3 k, LeO (Fs.f k a0 a1 a2 a3) (Fs.f (k + 1) a0 a1 a2 a3) := by
 intro a0 a1 a2 a3 k; obtain ⟨ih0, ih1⟩ := Fs.mono_l k
 unfold Fs.f
 repeat' first | (with_reducible first | exact ih0 _ _ _ _ _ _ | exact ih1 _ _ _ _ _ _ _ | exact lA | apply lI | refine lB ?_ fun _ => ?_) | exact lN _ | apply lI | refine lB ?_ fun _ => ?_
theorem Fs.calls (k : Nat) (af : Option Addr) (ag : Nat) (P : List ByteArray) (ah : Option Addr) (ai : Nat) (Q : List Bool) (aj : Option Addr) (ak : Nat) (A : List (List Int)) (A1 : Option Addr) (c1 : Nat) (V : List Bool) (r : List Bool) (w : World) (aG : Kd.C Kd.string w af P.length P) (aH : P.length ≤ ag) (aI : Kd.C Kd.bool w ah Q.length Q) (aJ : Q.length ≤ ai) (aK : Kd.C (Kd.slice 3 (Kd.int .i64)) w aj A.length A) (aL : A.length ≤ ak) (bp : Kd.C Kd.bool w A1 V.length V) (bq : V.length ≤ c1) (h : Fs.f k P Q A V = some r) :
  Calls Try.prog 37 #[.agg #[.slice af P.length ag, .slice ah Q.length ai, .slice aj A.length ak], .slice A1 V.length c1] w fun e w' => ∃ br : Value, e = .returned (br) ∧ Kd.R Kd.bool 4 w' w.heap.size (fun _ => True) br r ∧ Below w.heap.size w w' := by
 have hu45 := Try.underlying45; have b3 := aM aG; have b4 := aM aH; clear aG aH; have b5 := aM aI; have b6 := aM aJ; clear aI aJ; have ab := aM aK; have b7 := aM aL; clear aK aL; have bY := aM bp; have cr := aM bq; clear bp bq; have HB := aM (Below.refl w.heap.size w); rw [Fs.f] at h; have H := h; clear h
 apply iN H; clear H; intro c3 H; have cg := eq_true c3; have ch := dT c3; clear c3
 apply iN H; clear H; intro c4 H; have ci := eq_true c4; have cj := dT c4; clear c4; obtain ⟨bs, ac⟩ : ∃ y_ : List Bool, y_ = (List.replicate ((V.length : Int) : Int).toNat false) := ⟨_, rfl⟩
 first | replace H := rI ac H | rw [← ac] at H
 have bh := aM ac; clear ac; have H' := aM H; clear H
 go_enter Try.func37, Try.ntmps37
 go_wp2_with (first | ((with_reducible refine gate_dst (N := 2) rfl ?_); refine be_ (cs := #[.slice af P.length ag, .slice ah Q.length ai, .slice aj A.length ak]) (t := 45) ?_; intro aN hg w5 bw hb; have B := aM (bw); have b8 := gE hg (bP0 HB); have O := gE hg (bP0 HB); replace HB := hS0 HB hb; clear hb bw hg) | ((with_reducible refine gate_dst (N := 10) rfl ?_); refine Kd.R_make Kd.bool _ 4 rfl (N := 10) rfl 23 _ _ rfl (V.length : Int) rfl rfl Try.underlying23 (.bool false) 1 info4 rfl (by decide) (by omega) false (ok := fun _ => True) (okp := fun _ => True) rfl (fun _ hk => hk) trivial (oT aO) (Nat.le_trans (Nat.mul_le_mul_right _ (oT aO : (V.length : Int).toNat ≤ 281474976710656)) (by omega)) (Below.refl _ _) (Nat.le_refl _) ?_; intro a4 w6 aP hb hg_ hnew_; clear hg_ hnew_; replace aP := nW bh aP; have bi := rW aP (bP1 HB O); replace B := kB B hb; replace HB := hS1 HB O hb; clear hb aP))
 go_loopg [6] k (fun kq v6 w' => ∃ (au : List Bool) (z : Int), v6 = .int .i64 z ∧ Aside0 (Fs.l0 kq V au z P Q A = some r) ∧ Aside0 (kq ≤ k) ∧ RA Kd.bool 4 w' w a4 au ∧ Aside0 (w'.heap[aN]? = some (.cells #[(.slice af P.length ag), (.slice ah Q.length ai), (.slice aj A.length ak)] 45 (0, 0))) ∧ BA w w')
 case atStart => exact ⟨(bs), (0), sI, H', ⟨Nat.le_refl _⟩, rQ bi, kQ B, bT1 HB O⟩
 case round =>
  clear H'
  obtain ⟨au, z, rfl, HA, aY, D, B, HB⟩ := hrel; cases gk with
  | zero => exact absurd HA.out (by simp [Fs.l0])
  | succ k1 =>
   have H := HA.out; clear HA; simp only [Fs.l0] at H
   apply iB H <;> clear H <;> intro c8 H
   ·have bt := dT c8; clear c8; have H' := aM H; clear H
    go_wp2
    go_loopg [7] k1 (fun kq v7 w' => ∃ (J : List Bool) (E : Int), v7 = .int .i64 E ∧ Aside0 (Fs.l1 kq V J z E P Q A = some r) ∧ Aside0 (kq ≤ k1) ∧ RA Kd.bool 4 w' w a4 J ∧ Aside0 (w'.heap[aN]? = some (.cells #[(.slice af P.length ag), (.slice ah Q.length ai), (.slice aj A.length ak)] 45 (0, 0))) ∧ BA w w')
    case atStart => exact ⟨(au), (0), sI, H', ⟨Nat.le_refl _⟩, rQ D, kQ B, bT1 HB O⟩
    case round =>
     clear H'
     obtain ⟨J, E, rfl, HA, aZ, D, B, HB⟩ := hrel; cases gk with
     | zero => exact absurd HA.out (by simp [Fs.l1])
     | succ k2 =>
      have H := HA.out; clear HA; simp only [Fs.l1] at H
      apply iN H; clear H; intro c9 H; have cm := dT c9; clear c9
      apply iN H; clear H; intro aQ H; have b9 := dT aQ; clear aQ
      apply iB H <;> clear H <;> intro am H
      ·have bk := dT am; clear am
       apply iN H; clear H; intro aR H; have ca := dT aR; clear aR; obtain ⟨bu, av⟩ : ∃ b_ : Bool, b_ = (rdOf false J z) := ⟨_, rfl⟩
       rw [← av] at H
       have Nbq13 := aM av; clear av
       by_cases aS : bu = true
       ·subst aS
        rw [if_pos rfl] at H; obtain ⟨a5, ad⟩ : ∃ y_ : List Bool, y_ = (J.set (z : Int).toNat true) := ⟨_, rfl⟩
        first | replace H := rI ad H | rw [← ad] at H
        have bl := aM ad; clear ad; have H' := aM H; clear H; obtain ⟨bD, bE, bF, bG, bH, bI⟩ := bG3 B; have L : 0 ≤ (z : Int) := oT aO; have M : z < (A.length : Int) := oT aO; obtain ⟨aw, ax, ay, al, F, G, I⟩ := at_L4 ab.out z L M; cases al; replace F := cX HB F; have an := aM I; have ao := aM G; clear I G; replace L := eq_true L; replace M := eq_true M; obtain ⟨cn, bv, rfl⟩ := sL D; have W : 0 ≤ (z : Int) := oT aO; have Y : z < (J.length : Int) := oT aO; obtain ⟨bm, az, U⟩ := Kd.at_bool (rR D).2.2 z W Y
        (try rw [← Nbq13.out] at U)
        cases az; replace W := eq_true W; replace Y := eq_true Y; have a6 : 0 ≤ (z : Int) := oT aO; have a7 : (z : Int) < ((J.length : Int) : Int) := oT aO; obtain ⟨go15, co, a8, a9, gl15, cl15, HG15⟩ := Kd.R_form D.out (by omega)
        (first | cases a8 | (injection a8 with ea_ en_ ec_; (first | subst ea_ | (injection ea_ with ea_; subst ea_)); subst ec_; clear en_))
        have GB15 := aM a9; have GG15 := aM HG15; clear a9 gl15 HG15
        (first | simp only [add_plain] at U | skip)
        obtain ⟨bZ, hf15_0⟩ := Kd.R_celln false D.out (z : Int) a6 a7; replace a6 := eq_true a6; replace a7 := eq_true a7; have HP18 := Kd.R_putg D.out (z : Int) true
        go_wp2_with (first | ((with_reducible refine gate_store (t := 4) (p := 46) rfl ?_); refine store_event (t := 4) (p := 46) (v := ?vo_w19) (w1 := (wr.setCell ⟨go15, (z : Int).toNat, none⟩ (.bool true))) ?hg ?ho ?hn ?hr ?_; (case ho => rfl); (case hg => rfl); (case hn => rfl); (case hr => first | (go_simp; done) | (go_simp; rfl)); intro ba hw; have hg : wr.grownBy ba (some go15) := (by rw [hw]; exact HP18.2); have hp_ : Kd.R Kd.bool 4 ba w.heap.size (fun _ => True) (.slice (some ⟨go15, 0, none⟩) J.length bv) a5 := (by rw [hw, bl.out]; exact HP18.1); clear HP18; replace B := kG B hg D; replace D := aM (hp_); replace HB := aM ((by rw [hw]; exact below_set (HB.out) GB15.out : Below w.heap.size w ba)); clear hg hw hp_))
        go_roundg k2
        case measure => have := aY.out; have := aZ.out; omega
        case rel => exact ⟨(a5), (wrap64 (E + 1)), sI, H', ⟨by have := aY.out; have := aZ.out; omega⟩, rQ D, kQ B, bT1 HB O⟩
       ·replace aS := Bool.eq_false_iff.mpr aS; subst aS
        rw [if_neg nF] at H
        apply iN H; clear H; intro aT H; have cb := dT aT; clear aT
        apply iN H; clear H; intro aU H; have cc := dT aU; clear aU
        apply iN H; clear H; intro aV H; have cd := dT aV; clear aV; obtain ⟨bb, ae⟩ : ∃ y_ : List Bool, y_ = (J.set (z : Int).toNat (rdOf false V (rd (rd_L4 A z) E))) := ⟨_, rfl⟩
        first | replace H := rI ae H | rw [← ae] at H
        have bn := aM ae; clear ae; have H' := aM H; clear H; obtain ⟨bJ, bK, bL, bM, bN, bO⟩ := bG3 B; have L : 0 ≤ (z : Int) := oT aO; have M : z < (A.length : Int) := oT aO; obtain ⟨aw, ax, ay, al, F, G, I⟩ := at_L4 ab.out z L M; cases al; replace F := cX HB F; have an := aM I; have ao := aM G; clear I G; replace L := eq_true L; replace M := eq_true M; obtain ⟨cp, bx, rfl⟩ := sL D; have W : 0 ≤ (z : Int) := oT aO; have Y : z < (J.length : Int) := oT aO; obtain ⟨bm, az, U⟩ := Kd.at_bool (rR D).2.2 z W Y
        (try rw [← Nbq13.out] at U)
        cases az; replace W := eq_true W; replace Y := eq_true Y; have aA : 0 ≤ (z : Int) := oT aO; have aB : z < (A.length : Int) := oT aO; obtain ⟨bo, b0, b1, bA, Z, ap, aq⟩ := at_L4 ab.out z aA aB; obtain rfl := sJJ bA; replace Z := cX HB Z; have aX := aM aq; have bP := aM ap; clear aq ap; replace aA := eq_true aA; replace aB := eq_true aB; have ea_ := Option.some.inj (F.symm.trans Z)
        injection ea_ with ea_ en_ ec_
        subst ea_; subst ec_; clear en_; obtain ⟨⟨ce, bB, ar⟩, aC, aD⟩ := xAt (Kd.at_int aX.out) E; cases bB; replace ar := cX HB ar; have aE : 0 ≤ ((rd (rd_L4 A z) E) : Int) := oT aO; have aF : (rd (rd_L4 A z) E) < (V.length : Int) := oT aO; obtain ⟨cf, bC, aa⟩ := Kd.at_bool bY.out (rd (rd_L4 A z) E) aE aF
        (try rw [← Nbq13.out] at aa)
        cases bC; replace aa := cX HB aa; replace aE := eq_true aE; replace aF := eq_true aF; have bc : 0 ≤ (z : Int) := oT aO; have bd : (z : Int) < ((J.length : Int) : Int) := oT aO; obtain ⟨go23, cq, be, bf, gl23, cl23, HG23⟩ := Kd.R_form D.out (by omega)
        (first | cases be | (injection be with ea_ en_ ec_; (first | subst ea_ | (injection ea_ with ea_; subst ea_)); subst ec_; clear en_))
        have GB23 := aM bf; have GG23 := aM HG23; clear bf gl23 HG23
        (first | simp only [add_plain] at U | skip)
        obtain ⟨b2, hf23_0⟩ := Kd.R_celln false D.out (z : Int) bc bd; replace bc := eq_true bc; replace bd := eq_true bd; have HP26 := Kd.R_putg D.out (z : Int) (rdOf false V (rd (rd_L4 A z) E))
        go_wp2_with (first | ((with_reducible refine gate_store (t := 4) (p := 46) rfl ?_); refine store_event (t := 4) (p := 46) (v := ?vo_w27) (w1 := (wr.setCell ⟨go23, (z : Int).toNat, none⟩ (.bool (rdOf false V (rd (rd_L4 A z) E))))) ?hg ?ho ?hn ?hr ?_; (case ho => rfl); (case hg => rfl); (case hn => rfl); (case hr => first | (go_simp; done) | (go_simp; rfl)); intro bg hw; have hg : wr.grownBy bg (some go23) := (by rw [hw]; exact HP26.2); have hp_ : Kd.R Kd.bool 4 bg w.heap.size (fun _ => True) (.slice (some ⟨go23, 0, none⟩) J.length bx) bb := (by rw [hw, bn.out]; exact HP26.1); clear HP26; replace B := kG B hg D; replace D := aM (hp_); replace HB := aM ((by rw [hw]; exact below_set (HB.out) GB23.out : Below w.heap.size w bg)); clear hg hw hp_))
        go_roundg k2
        case measure => have := aY.out; have := aZ.out; omega
        case rel => exact ⟨(bb), (wrap64 (E + 1)), sI, H', ⟨by have := aY.out; have := aZ.out; omega⟩, rQ D, kQ B, bT1 HB O⟩
      ·have bk := decide_eq_false am; clear am; have H' := aM H; clear H; obtain ⟨bQ, bR, bS, bT, bU, bV⟩ := bG3 B; have L : 0 ≤ (z : Int) := oT aO; have M : z < (A.length : Int) := oT aO; obtain ⟨aw, ax, ay, al, F, G, I⟩ := at_L4 ab.out z L M; cases al; replace F := cX HB F; have an := aM I; have ao := aM G; clear I G; replace L := eq_true L; replace M := eq_true M
       go_wp2
       go_roundg k2
       case measure => have := aY.out; have := aZ.out; omega
       case rel => exact ⟨(J), (wrap64 (z + 1)), sI, H', ⟨by have := aY.out; have := aZ.out; omega⟩, rQ D, kQ B, bT1 HB O⟩
   ·have bt := decide_eq_false c8; clear c8; obtain rfl := Option.some.inj H
    go_wp2
    go_ret
    exact ⟨_, eW, rO D.out, bS1 HB.out O.out⟩
end Go.Proofs.Ytninoenmhcbonaa.X
