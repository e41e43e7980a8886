/- What the functions of this seat compute, and that the program's calls come to just that: written by this session's own program out of the translation; no condition. -/
import Derived.Test.YtninoenmhcbonaaX0
import Derived.Test.YtninoenmhcbonaaX20
namespace Go.Proofs.Ytninoenmhcbonaa.X
open Go.RowKit Go.Proofs.YtninoenmhcbonaaW.PrintWords Go.Proofs.YtninoenmhcbonaaW.PrintLast Go.Proofs.YtninoenmhcbonaaW.PrintMore
attribute [local go_sem] max2_int min2_int max_two min_two max_three min_three max_four min_four
set_option linter.unusedVariables false
set_option linter.unusedSimpArgs false
set_option maxHeartbeats 8000000
set_option maxRecDepth 100000

/-! ### tabardref11_Row: function 91 -/
def tabardref11_Row.l0 : Nat → List Int → Int → Option (Bool)
 | 0, _, _ => none
 | k + 1, x0, x3 => if x3 < (x0.length : Int) then (if 0 ≤ x3 then (if (rd x0 x3) < 0 then (some false) else (tabardref11_Row.l0 k x0 (wrap64 (x3 + 1)))) else (none)) else (some true)
def tabardref11_Row.f (k : Nat) (l0 : List Int) : Option (Bool) := (tabardref11_Tracks.f k (l0.length : Int)).bind fun t314 => (if t314 < 0 then (some false) else (tabardref11_Row.l0 k l0 0))
theorem tabardref11_Row.mono_l : ∀ k, (∀ y0 y1, LeO (tabardref11_Row.l0 k y0 y1) (tabardref11_Row.l0 (k + 1) y0 y1))
 | 0 => fun _ _ r h => by simp [tabardref11_Row.l0] at h
 | k + 1 => by
  have ih0 := tabardref11_Row.mono_l k
  ·intro y0 y1
   unfold tabardref11_Row.l0
   repeat' first | (with_reducible first | exact ih0 _ _ | exact tabardref11_Tracks.mono _ _ | exact lA | apply lI | refine lB ?_ fun _ => ?_) | exact lN _ | apply lI | refine lB ?_ fun _ => ?_
theorem tabardref11_Row.mono : ∀ a0 k, LeO (tabardref11_Row.f k a0) (tabardref11_Row.f (k + 1) a0) := by
 intro a0 k; have ih0 := tabardref11_Row.mono_l k
 unfold tabardref11_Row.f
 repeat' first | (with_reducible first | exact ih0 _ _ | exact tabardref11_Tracks.mono _ _ | exact lA | apply lI | refine lB ?_ fun _ => ?_) | exact lN _ | apply lI | refine lB ?_ fun _ => ?_
theorem tabardref11_Row.calls (k : Nat) (Z : Option Addr) (c0 : Nat) (D : List Int) (r : Bool) (w : World) (O : Kd.C (Kd.int .i64) w Z D.length D) (P : D.length ≤ c0) (h : tabardref11_Row.f k D = some r) :
  Calls Try.prog 91 #[.slice Z D.length c0] w fun e w' => e = .returned (.bool r) ∧ Drawn0 w w' := by
 have Q := aM O; have ae := aM P; clear O P; rw [tabardref11_Row.f] at h; have H := h; clear h; replace H := Option.bind_eq_some_iff.mp H; obtain ⟨E, U, H⟩ := H; have A2 := aM U; clear U
 by_cases G : E < 0
 ·rw [if_pos G] at H; have V := dT G; clear G; obtain rfl := Option.some.inj H
  go_enter Try.func91, Try.ntmps91
  go_wp2_with (first | ((with_reducible refine gate_callee (f := 107) rfl ?_); refine gL_ (some 6) Try.func107 #[.int .i64 (D.length : Int)] ?_; (with_reducible refine (tabardref11_Tracks.calls k (D.length : Int) E _ A2.out).mono ?_); rintro e w' ⟨rfl, ⟨nd, rfl⟩⟩; refine ⟨_, rfl, ?_⟩))
  go_ret
  exact ⟨by first | rfl | (simp; done) | (simp [*]; done), by repeat (first | exact Drawn0.refl _ | apply Drawn0.step)⟩
 ·rw [if_neg G] at H; have V := decide_eq_false G; clear G; have H' := aM H; clear H
  go_enter Try.func91, Try.ntmps91
  go_wp2_with (first | ((with_reducible refine gate_callee (f := 107) rfl ?_); refine gL_ (some 6) Try.func107 #[.int .i64 (D.length : Int)] ?_; (with_reducible refine (tabardref11_Tracks.calls k (D.length : Int) E _ A2.out).mono ?_); rintro e w' ⟨rfl, ⟨nd, rfl⟩⟩; refine ⟨_, rfl, ?_⟩))
  go_loopg [3] k (fun kq v3 w' => ∃ (z : Int), v3 = .int .i64 z ∧ Aside0 (tabardref11_Row.l0 kq D z = some r) ∧ Aside0 (kq ≤ k) ∧ Drawn0 w w')
  case atStart => exact ⟨(0), sI, H', ⟨Nat.le_refl _⟩, by repeat (first | exact Drawn0.refl _ | apply Drawn0.step)⟩
  case round =>
   clear H'
   obtain ⟨z, rfl, HA, HK1, ⟨m1, rfl⟩⟩ := hrel; cases gk with
   | zero => exact absurd HA.out (by simp [tabardref11_Row.l0])
   | succ k1 =>
    have H := HA.out; clear HA; simp only [tabardref11_Row.l0] at H
    by_cases I : z < (D.length : Int)
    ·rw [if_pos I] at H; have W := dT I; clear I
     by_cases M : 0 ≤ z
     ·rw [if_pos M] at H; have ad := dT M; clear M
      by_cases J : (rd D z) < 0
      ·rw [if_pos J] at H; have Y := dT J; clear J; obtain rfl := Option.some.inj H; have A : 0 ≤ (z : Int) := oT aO; have B : z < (D.length : Int) := oT aO; obtain ⟨N, F, L⟩ := Kd.at_int Q.out z A B; cases F; replace A := eq_true A; replace B := eq_true B
       go_wp2
       go_ret
       exact ⟨by first | rfl | (simp; done) | (simp [*]; done), by repeat (first | exact Drawn0.refl _ | apply Drawn0.step)⟩
      ·rw [if_neg J] at H; have Y := decide_eq_false J; clear J; have H' := aM H; clear H; have A : 0 ≤ (z : Int) := oT aO; have B : z < (D.length : Int) := oT aO; obtain ⟨N, F, L⟩ := Kd.at_int Q.out z A B; cases F; replace A := eq_true A; replace B := eq_true B
       go_wp2
       go_roundg k1
       case measure => have := HK1.out; omega
       case rel => exact ⟨(wrap64 (z + 1)), sI, H', ⟨by have := HK1.out; omega⟩, by repeat (first | exact Drawn0.refl _ | apply Drawn0.step)⟩
     ·exact nX M H
    ·rw [if_neg I] at H; have W := decide_eq_false I; clear I; obtain rfl := Option.some.inj H
     go_wp2
     go_ret
     exact ⟨by first | rfl | (simp; done) | (simp [*]; done), by repeat (first | exact Drawn0.refl _ | apply Drawn0.step)⟩

/-! ### tabardref11_Pack: function 78 -/
def tabardref11_Pack.f (k : Nat) (l0 : List Int) : Option ((List (S73)) × Int) := (tabardref11_Row.f k l0).bind fun t316 => (if t316 = true then ((tabardref11_Cubes.f k l0 0 0).bind fun t317 => (some (t317, 0))) else (some (([] : List (S73)), 3)))
theorem tabardref11_Pack.mono : ∀ a0 k, LeO (tabardref11_Pack.f k a0) (tabardref11_Pack.f (k + 1) a0) := by
 intro a0 k
 unfold tabardref11_Pack.f
 repeat' first | (with_reducible first | exact tabardref11_Cubes.mono _ _ _ _ | exact tabardref11_Row.mono _ _ | exact lA | apply lI | refine lB ?_ fun _ => ?_) | exact lN _ | apply lI | refine lB ?_ fun _ => ?_
theorem tabardref11_Pack.calls (k : Nat) (A : Option Addr) (B : Nat) (z : List Int) (U : List (S73)) (V : Int) (w : World) (I : Kd.C (Kd.int .i64) w A z.length z) (J : z.length ≤ B) (h : tabardref11_Pack.f k z = some (U, V)) :
  Calls Try.prog 78 #[.slice A z.length B] w fun e w' => ∃ L : Value, e = .returned (.tuple #[L, .int .i64 V]) ∧ Kd.R k73 73 w' w.heap.size (fun _ => True) L U ∧ Below w.heap.size w w' := by
 have D := aM I; have E := aM J; clear I J; have HB := aM (Below.refl w.heap.size w); rw [tabardref11_Pack.f] at h; have H := h; clear h; replace H := Option.bind_eq_some_iff.mp H; obtain ⟨P, M, H⟩ := H; have W := aM M; clear M
 by_cases F : P = true
 ·subst F
  rw [if_pos rfl] at H; replace H := Option.bind_eq_some_iff.mp H; obtain ⟨Q, N, H⟩ := H; have Y := aM N; clear N; simp only [Option.some.injEq, Prod.mk.injEq] at H; obtain ⟨rfl, rfl⟩ := H
  go_enter Try.func78, Try.ntmps78
  go_wp2_with (first | ((with_reducible refine gate_callee (f := 91) rfl ?_); refine gL_ (some 5) Try.func91 #[.slice A z.length B] ?_; (with_reducible refine (tabardref11_Row.calls k _ _ z true _ ?s1 E.out W.out).mono ?_); (case s1 => exact cO D.out); rintro e w' ⟨rfl, ⟨nd, rfl⟩⟩; refine ⟨_, rfl, ?_⟩) | ((with_reducible refine gate_callee (f := 64) rfl ?_); refine gL_ (some 8) Try.func64 #[.slice A z.length B, .int .i64 0, .int .i64 0] ?_; (with_reducible refine (tabardref11_Cubes.calls k _ _ z 0 0 Q _ ?s1 E.out Y.out).mono ?_); (case s1 => exact cO D.out); rintro e w5 ⟨Z, rfl, O, hb⟩; refine ⟨_, rfl, ?_⟩; have G := rW O (bP0 HB); replace HB := hS0 HB hb; (try clear hb); (try clear O)))
  go_ret2
  exact ⟨_, eW, rO G.out, bO HB.out⟩
 ·replace F := Bool.eq_false_iff.mpr F; subst F
  rw [if_neg nF] at H; simp only [Option.some.injEq, Prod.mk.injEq] at H; obtain ⟨rfl, rfl⟩ := H
  go_enter Try.func78, Try.ntmps78
  go_wp2_with (first | ((with_reducible refine gate_callee (f := 91) rfl ?_); refine gL_ (some 5) Try.func91 #[.slice A z.length B] ?_; (with_reducible refine (tabardref11_Row.calls k _ _ z false _ ?s1 E.out W.out).mono ?_); (case s1 => exact cO D.out); rintro e w' ⟨rfl, ⟨nd, rfl⟩⟩; refine ⟨_, rfl, ?_⟩))
  go_ret2
  exact ⟨_, eW, by first | exact Kd.R_nil _ _ _ _ _ | exact Kd.N_nil _ _ _ _ _ | exact Kd.V_nil _ _ _ _ _ | exact Kd.Q_nil _ _ _ _ _ | exact Kd.S_nil _ _ _ _ _, bO HB.out⟩

end Go.Proofs.Ytninoenmhcbonaa.X
namespace Go.Proofs.Ytninoenmhcbonaa.X
open Go.RowKit Go.Proofs.YtninoenmhcbonaaW.PrintWords Go.Proofs.YtninoenmhcbonaaW.PrintLast Go.Proofs.YtninoenmhcbonaaW.PrintMore
attribute [local go_sem] max2_int min2_int max_two min_two max_three min_three max_four min_four
set_option linter.unusedVariables false
set_option linter.unusedSimpArgs false
set_option maxHeartbeats 8000000
set_option maxRecDepth 100000

/-! ### tabardref12_Pack: function 57 -/
def tabardref12_Pack.l0 : Nat → Int → List ByteArray → List Bool → List (List Int) → List ByteArray → List Bool → List Int → List (S73) → Option (List ByteArray × List Bool × List Int × (List (S73)) × Int)
 | 0, _, _, _, _, _, _, _, _ => none
 | k + 1, x5, x321000, x321001, x321002, x338000, x338001, x338002, x338003 => if x5 < (x321002.length : Int) then (if 0 ≤ x5 then ((tabardref11_Pack.f k (rd_L4 x321002 x5)).bind fun bt339 => (if (bt339.1.length : Int) > 32 then (some (([] : List ByteArray), ([] : List Bool), ([] : List Int), ([] : List (S73)), 120)) else (if x338003.length + bt339.1.length < 5864062014805 then ((some (x338003 ++ bt339.1 : List (S73))).bind fun y343 => (if x338002.length < 17592186044416 then (tabardref12_Pack.l0 k (wrap64 (x5 + 1)) x321000 x321001 x321002 x338000 x338001 (x338002 ++ [(y343.length : Int)]) y343) else (none))) else (none)))) else (none)) else (some (x338000, x338001, x338002, x338003, 0))
def tabardref12_Pack.f (k : Nat) (l0_0 : List ByteArray) (l0_1 : List Bool) (l0_2 : List (List Int)) : Option (List ByteArray × List Bool × List Int × (List (S73)) × Int) := (some (([] : List ByteArray) : List ByteArray)).bind fun y322 => (if y322.length + l0_0.length < 8796093022208 then ((some (([] : List Bool) : List Bool)).bind fun y328 => (if y328.length + l0_1.length < 140737488355328 then (tabardref12_Pack.l0 k 0 l0_0 l0_1 l0_2 (y322 ++ l0_0) (y328 ++ l0_1) (([0] : List Int)) ([] : List (S73))) else (none))) else (none))
theorem tabardref12_Pack.mono_l : ∀ k, (∀ y0 y1 y2 y3 y4 y5 y6 y7, LeO (tabardref12_Pack.l0 k y0 y1 y2 y3 y4 y5 y6 y7) (tabardref12_Pack.l0 (k + 1) y0 y1 y2 y3 y4 y5 y6 y7))
 | 0 => fun _ _ _ _ _ _ _ _ r h => by simp [tabardref12_Pack.l0] at h
 | k + 1 => by
  have ih0 := tabardref12_Pack.mono_l k
  ·intro y0 y1 y2 y3 y4 y5 y6 y7
   unfold tabardref12_Pack.l0
   repeat' first | (with_reducible first | exact ih0 _ _ _ _ _ _ _ _ | exact tabardref11_Pack.mono _ _ | exact lA | apply lI | refine lB ?_ fun _ => ?_) | exact lN _ | apply lI | refine lB ?_ fun _ => ?_
theorem tabardref12_Pack.mono : ∀ a0 a1 a2 k, LeO (tabardref12_Pack.f k a0 a1 a2) (tabardref12_Pack.f (k + 1) a0 a1 a2) := by
 intro a0 a1 a2 k; have ih0 := tabardref12_Pack.mono_l k
 unfold tabardref12_Pack.f
 repeat' first | (with_reducible first | exact ih0 _ _ _ _ _ _ _ _ | exact tabardref11_Pack.mono _ _ | exact lA | apply lI | refine lB ?_ fun _ => ?_) | exact lN _ | apply lI | refine lB ?_ fun _ => ?_
def tabardref12_Pack.T1 : Bool × List (List Nat × List Nat) := (true, [([], []), ([], []), ([1], [1]), ([0, 2], [0, 2]), ([], []), ([], []), ([5], [5]), ([4, 6, 3], [4, 6]), ([], []), ([3, 7, 8], [3, 7, 8]), ([], []), ([10, 9, 7, 0, 1, 2, 3, 4, 5, 6, 7, 8, 9, 10], [9, 10])])
def tabardref12_Pack.B1 : List Nat := [0, 0, 2, 7, 0, 0, 32, 127, 0, 511, 0, 2047]
theorem tabardref12_Pack.tab1 : rtab .any (opsOf Try.f57 1) = tabardref12_Pack.T1 := by kernel_rfl
theorem tabardref12_Pack.bits1 : waitsOk tabardref12_Pack.T1.2 tabardref12_Pack.B1 = true := by kernel_rfl
theorem tabardref12_Pack.calls (k : Nat) (bh : Option Addr) (bi : Nat) (al : List ByteArray) (bj : Option Addr) (bk : Nat) (ap : List Bool) (bv : Option Addr) (bm : Nat) (ay : List (List Int)) (r1 : List ByteArray) (r2 : List Bool) (r3 : List Int) (r4 : List (S73)) (r5 : Int) (w : World) (cm : Kd.C Kd.string w bh al.length al) (cn : al.length ≤ bi) (co : Kd.C Kd.bool w bj ap.length ap) (cp : ap.length ≤ bk) (cq : Kd.C (Kd.slice 3 (Kd.int .i64)) w bv ay.length ay) (cr : ay.length ≤ bm) (h : tabardref12_Pack.f k al ap ay = some (r1, r2, r3, r4, r5)) :
  Calls Try.prog 57 #[.agg #[.slice bh al.length bi, .slice bj ap.length bk, .slice bv ay.length bm]] w fun e w' => ∃ c5 c6 c7 c8 : Value, e = .returned (.tuple #[.agg #[c5, c6, c7, c8], .int .i64 r5]) ∧ Kd.R Kd.string 9 w' w.heap.size (fun _ => True) c5 r1 ∧ Kd.R Kd.bool 4 w' w.heap.size (fun _ => True) c6 r2 ∧ Kd.R (Kd.int .i64) 3 w' w.heap.size (fun _ => True) c7 r3 ∧ Kd.R k73 73 w' w.heap.size (fun _ => True) c8 r4 ∧ Below w.heap.size w w' := by
 have hu45 := Try.underlying45; have hu27 := Try.underlying27; have aY := aM cm; have eC := aM cn; clear cm cn; have bM := aM co; have eD := aM cp; clear co cp; have ct := aM cq; have eE := aM cr; clear cq cr; have HB := aM (Below.refl w.heap.size w); rw [tabardref12_Pack.f] at h; have H := h; clear h; obtain ⟨aD, b7⟩ : ∃ y_ : List ByteArray, y_ = (([] : List ByteArray)) := ⟨_, rfl⟩
 replace H : (if aD.length + al.length < 8796093022208 then ((some (([] : List Bool) : List Bool)).bind fun ax => (if ax.length + ap.length < 140737488355328 then (tabardref12_Pack.l0 k 0 al ap ay (aD ++ al) (ax ++ ap) (([0] : List Int)) ([] : List (S73))) else (none))) else (none)) = some (r1, r2, r3, r4, r5) := rH b7 H
 have aZ := aM b7; clear b7
 by_cases c2 : aD.length + al.length < 8796093022208
 ·rw [if_pos c2] at H; have bn := aM c2; clear c2; obtain ⟨aq, bN⟩ : ∃ y_ : List ByteArray, y_ = (aD ++ al) := ⟨_, rfl⟩
  first | replace H := rI bN H | rw [← bN] at H
  have a3 := aM bN; clear bN; obtain ⟨ax, b8⟩ : ∃ y_ : List Bool, y_ = (([] : List Bool)) := ⟨_, rfl⟩
  replace H : (if ax.length + ap.length < 140737488355328 then (tabardref12_Pack.l0 k 0 al ap ay aq (ax ++ ap) (([0] : List Int)) ([] : List (S73))) else (none)) = some (r1, r2, r3, r4, r5) := rH b8 H
  have aI := aM b8; clear b8
  by_cases c3 : ax.length + ap.length < 140737488355328
  ·rw [if_pos c3] at H; have b9 := aM c3; clear c3; obtain ⟨aH, bO⟩ : ∃ y_ : List Bool, y_ = (ax ++ ap) := ⟨_, rfl⟩
   first | replace H := rI bO H | rw [← bO] at H
   have bP := aM bO; clear bO; obtain ⟨aC, bQ⟩ : ∃ y_ : List Int, y_ = (([0] : List Int)) := ⟨_, rfl⟩
   first | replace H := rI bQ H | rw [← bQ] at H
   have aE := aM bQ; clear bQ; have H' := aM H; clear H
   go_enter Try.func57, Try.ntmps57
   try go_wp2_with (first | ((with_reducible refine gate_dst (N := 1) rfl ?_); refine be_ (cs := #[.slice bh al.length bi, .slice bj ap.length bk, .slice bv ay.length bm]) (t := 45) ?_; intro ab hg w4 hbox hb; have z := aM (hbox); have eF := gE hg (bP0 HB); have B := gE hg (bP0 HB); replace HB := hS0 HB hb; clear hb hbox hg) | ((with_reducible refine gate_dst (N := 2) rfl ?_); refine be_ (cs := #[.slice none 0 0, .slice none 0 0, .slice none 0 0, .slice none 0 0]) (t := 27) ?_; intro ae hg w5 hbox hb; have A := aM (hbox); have eG := gE hg (bP1 HB B); have D := gE hg (bP1 HB B); replace HB := hS1 HB B hb; have bo := nL hg z; have bp := nG hg z; replace z := kB z hb; clear hb hbox hg))
   replace z := kD z; replace A := kD A; replace HB := aM (below_drew1 HB.out); refine start_ (n := 12) (S := fun w' => w'.cell? ⟨ab, 0, none⟩ = some (.slice bh al.length bi) ∧ w'.cell? ⟨ab, 1, none⟩ = some (.slice bj ap.length bk) ∧ w'.cell? ⟨ab, 2, none⟩ = some (.slice bv ay.length bm)) (ds := []) (bl 12 0) (by kernel_rfl) rfl rfl (bD3 z) (fun hHeld => ?_); refine with_tabW tabardref12_Pack.tab1 tabardref12_Pack.bits1 (fun HT_ HW_ => ?_); generalize w5.drew = w6 at z A HB hHeld ⊢; refine pu_ 1 9 (bl 12 2) HT_ ?_; refine pu_ 5 13 (bl 12 34) HT_ ?_; refine tk3_ 2 10 (bl 12 38) HT_ HW_ hHeld ?_; refine tk3_ 6 14 (bl 12 102) HT_ HW_ hHeld ?_; let q_1 : World → Prop := fun w' => w'.cell? ⟨ab, 0, none⟩ = some (.slice bh al.length bi) ∧ w'.cell? ⟨ab, 1, none⟩ = some (.slice bj ap.length bk) ∧ w'.cell? ⟨ab, 2, none⟩ = some (.slice bv ay.length bm); let q_2 : World → Prop := fun w' => Aside0 (w'.heap[ab]? = some (.cells #[.slice bh al.length bi, .slice bj ap.length bk, .slice bv ay.length bm] 45 (0, 0))); let q_3 : World → Prop := fun w' => Aside0 (w'.heap[ae]? = some (.cells #[.slice none 0 0, .slice none 0 0, .slice none 0 0, .slice none 0 0] 27 (0, 0))); refine join_ (σ := Value × Value × Value × Value × Value × Nat) 1 (bl 12 2047) (fun s_ => [(8, s_.1), (11, s_.2.1), (12, s_.2.2.1), (15, s_.2.2.2.1), (16, s_.2.2.2.2.1), (4, .pointer (some ⟨s_.2.2.2.2.2, 0, none⟩)), (17, .agg #[s_.2.1, s_.2.2.2.1, s_.2.2.2.2.1, .slice none 0 0])]) (fun s_ w' => (q_1 w') ∧ (RA Kd.string 9 w' w s_.2.1 aq) ∧ (RA Kd.bool 4 w' w s_.2.2.2.1 aH) ∧ (RA (Kd.int .i64) 3 w' w s_.2.2.2.2.1 aC) ∧ (q_2 w') ∧ (q_3 w') ∧ (Aside0 (w'.heap[s_.2.2.2.2.2]? = some (.cells #[.slice none 0 0, .slice none 0 0, .slice none 0 0, .slice none 0 0] 27 (0, 0)))) ∧ (Aside0 (w.heap.size ≤ s_.2.2.2.2.2)) ∧ (Aside0 (w.heap.size ≤ s_.2.2.2.2.2)) ∧ (Aside0 (ab ≠ s_.2.2.2.2.2)) ∧ (Aside0 (s_.2.2.2.2.2 ≠ ab)) ∧ (Aside0 (ae ≠ s_.2.2.2.2.2)) ∧ (Aside0 (s_.2.2.2.2.2 ≠ ae)) ∧ BA w w') ?_ ?_
   ·clear z A HB; rintro ⟨Y, ad, Z, a6, aa, V⟩ cu ⟨hHeld, U, ac, O, z, A, G, W, F, E, J, I, L, HB⟩; (try dsimp only at hHeld U ac O z A G W F E J I L HB); obtain ⟨ch, ci, bU⟩ := sL O
    (first | subst bU | (injection bU with af am ag; have an := af.symm; have ao := ag.symm; clear af am ag; subst an; subst ao))
    obtain ⟨bH, bI, bV⟩ := sL ac
    (first | subst bV | (injection bV with af am ag; have an := af.symm; have ao := ag.symm; clear af am ag; subst an; subst ao))
    obtain ⟨ca, cb, cK⟩ := sL U
    (first | subst cK | (injection cK with af am ag; have an := af.symm; have ao := ag.symm; clear af am ag; subst an; subst ao))
    refine norm_ (a' := ?_) ?_ ?_; rotate_left
    ·simp only [putAll, Act.put, sA, sB, sC]
     rfl
    refine one_ (i := 11) (N := none) (bl 12 4095) rfl rfl (one_of HT_.out (by kernel_rfl)) (by decide) (fun K hK => ?_); have hs23 : cu.cell? ⟨V, 0, none⟩ = some (.slice none 0 0) := (blk_cell G.out 0).trans rfl; have hfs23 := blk_frozen G.out 0; have hns23_0 := E.out; have hns23_1 := I.out; have hms23_0 := J.out; have hms23_1 := L.out; have hs24 : cu.cell? ⟨V, 1, none⟩ = some (.slice none 0 0) := (blk_cell G.out 1).trans rfl; have hfs24 := blk_frozen G.out 1; have hns24_0 := E.out; have hns24_1 := I.out; have hms24_0 := J.out; have hms24_1 := L.out; have hs25 : cu.cell? ⟨V, 2, none⟩ = some (.slice none 0 0) := (blk_cell G.out 2).trans rfl; have hfs25 := blk_frozen G.out 2; have hns25_0 := E.out; have hns25_1 := I.out; have hms25_0 := J.out; have hms25_1 := L.out; have hs26 : cu.cell? ⟨V, 3, none⟩ = some (.slice none 0 0) := (blk_cell G.out 3).trans rfl; have hfs26 := blk_frozen G.out 3; have hns26_0 := E.out; have hns26_1 := I.out; have hms26_0 := J.out; have hms26_1 := L.out; refine skip_ (w1 := ?_) (by rfl) rfl ?_ ?_; rotate_left
    ·go_simp
     rfl
    refine hK.out _ _ ⟨((cell_far (p := ⟨V, _, none⟩) E.out _).trans (((cell_far (p := ⟨V, _, none⟩) E.out _).trans (((cell_far (p := ⟨V, _, none⟩) E.out _).trans (((cell_far (p := ⟨V, _, none⟩) E.out _).trans (hHeld.1)))))))), ((cell_far (p := ⟨V, _, none⟩) E.out _).trans (((cell_far (p := ⟨V, _, none⟩) E.out _).trans (((cell_far (p := ⟨V, _, none⟩) E.out _).trans (((cell_far (p := ⟨V, _, none⟩) E.out _).trans (hHeld.2.1)))))))), ((cell_far (p := ⟨V, _, none⟩) E.out _).trans (((cell_far (p := ⟨V, _, none⟩) E.out _).trans (((cell_far (p := ⟨V, _, none⟩) E.out _).trans (((cell_far (p := ⟨V, _, none⟩) E.out _).trans (hHeld.2.2))))))))⟩ (fun hHeld => ?_); clear hK K; refine done_ (done_of HT_.out (by kernel_rfl)) ?_
    try go_wp2
    go_loopg [5] k (fun kq v5 w' => ∃ (aG : Int) (az : List Int) (aA : List (S73)) (a7 : Value) (bt : Value), v5 = .int .i64 aG ∧ Aside0 (tabardref12_Pack.l0 kq aG al ap ay aq aH az aA = some (r1, r2, r3, r4, r5)) ∧ Aside0 (kq ≤ k) ∧ RA Kd.string 9 w' w (.slice ca aq.length cb) aq ∧ RA Kd.bool 4 w' w (.slice bH aH.length bI) aH ∧ RA (Kd.int .i64) 3 w' w a7 az ∧ RA k73 73 w' w bt aA ∧ Aside0 (w'.heap[ab]? = some (.cells #[(.slice bh al.length bi), (.slice bj ap.length bk), (.slice bv ay.length bm)] 45 (0, 0))) ∧ Aside0 (w'.heap[ae]? = some (.cells #[(.slice none 0 0), (.slice none 0 0), (.slice none 0 0), (.slice none 0 0)] 27 (0, 0))) ∧ Aside0 (w'.heap[V]? = some (.cells #[(.slice ca aq.length cb), (.slice bH aH.length bI), a7, bt] 27 (0, 0))) ∧ BA w w')
    case atStart => exact ⟨(0), (aC), (([] : List (S73))), (.slice ch aC.length ci), (.slice none 0 0), sI, H', ⟨Nat.le_refl _⟩, ⟨rZ U G⟩, ⟨rZ ac G⟩, ⟨rZ O G⟩, ⟨by first | exact Kd.R_nil _ _ _ _ _ | exact Kd.N_nil _ _ _ _ _ | exact Kd.V_nil _ _ _ _ _ | exact Kd.Q_nil _ _ _ _ _ | exact Kd.S_nil _ _ _ _ _⟩, ⟨kN z E⟩, ⟨kN A I⟩, ⟨by (with_reducible repeat (first | refine blk_drewN ?_ _ | refine blk_drew ?_ | refine blk_alloc ?_ _)); exact blk_put (blk_put (blk_put (blk_put G.out 0 _ rfl) 1 _ rfl) 2 _ rfl) 3 _ rfl⟩, bT3 HB B D F⟩
    case round =>
     clear H'
     obtain ⟨aG, az, aA, a7, bt, rfl, HA, HK1, av, aw, ah, aj, z, A, G, HB⟩ := hrel; cases gk with
     | zero => exact absurd HA.out (by simp [tabardref12_Pack.l0])
     | succ k1 =>
      have H := HA.out; clear HA; simp only [tabardref12_Pack.l0] at H
      by_cases b3 : aG < (ay.length : Int)
      ·rw [if_pos b3] at H; have cU := dT b3; clear b3
       by_cases cv : 0 ≤ aG
       ·rw [if_pos cv] at H; have eH := dT cv; clear cv; replace H := Option.bind_eq_some_iff.mp H; obtain ⟨⟨aT, cL⟩, cM, H⟩ := H; replace H : (if (aT.length : Int) > 32 then (some (([] : List ByteArray), ([] : List Bool), ([] : List Int), ([] : List (S73)), 120)) else (if aA.length + aT.length < 5864062014805 then ((some (aA ++ aT : List (S73))).bind fun be => (if az.length < 17592186044416 then (tabardref12_Pack.l0 k1 (wrap64 (aG + 1)) al ap ay aq aH (az ++ [(be.length : Int)]) be) else (none))) else (none))) = some (r1, r2, r3, r4, r5) := H; have c9 := aM cM; clear cM
        by_cases b4 : (aT.length : Int) > 32
        ·rw [if_pos b4] at H; have cV := dT b4; have cW : decide (32 < aT.length) = true := dT (by omega); clear b4; simp only [Option.some.injEq, Prod.mk.injEq] at H; obtain ⟨rfl, rfl, rfl, rfl, rfl⟩ := H; have eI := bo.out; have eJ := bp.out; have eK := E.out; have eL := J.out; obtain ⟨dt, du, dv, dw, dx, dy⟩ := bG3 z; have bw : 0 ≤ (aG : Int) := oT aO; have bx : aG < (ay.length : Int) := oT aO; obtain ⟨cw, bW, bX, cj, a8, a9, ba⟩ := at_L4 ct.out aG bw bx; cases cj; replace a8 := cX HB a8; have bJ := aM ba; have bK := aM a9; clear ba a9; replace bw := eq_true bw; replace bx := eq_true bx
         go_wp2_with (first | ((with_reducible refine gate_callee (f := 78) rfl ?_); refine gL_ (some 31) Try.func78 #[.slice bW (rd_L4 ay aG).length bX] ?_; (with_reducible refine (tabardref11_Pack.calls k1 _ _ (rd_L4 ay aG) aT cL _ ?s1 bK.out c9.out).mono ?_); (case s1 => exact cB bJ HB); rintro e e7 ⟨da, rfl, bY, hb⟩; refine ⟨_, rfl, ?_⟩; replace av := rB av hb; replace aw := rB aw hb; replace ah := rB ah hb; have aU := rW (Kd.R_new' bY (Kd.R_lt (rP aj))) (bP3 HB B D F); replace aj := aM (Kd.R_elder' (rP aj) (Kd.R_base bY) hb); replace z := kB z hb; replace A := kB A hb; replace G := kB G hb; replace HB := hS3 HB B D F hb; (try clear hb); (try clear bY); obtain ⟨e3, e4, db⟩ := sL aU; subst db; have eM := I.out; have eN := L.out; obtain ⟨dz, dA, dB, dC, dD, dE, dF, dG⟩ := bG4 A))
         refine bodyPost_ret (results_ct rfl _ _ ae 27 #[.slice none 0 0, .slice none 0 0, .slice none 0 0, .slice none 0 0] (0, 0) _ rfl (by (with_reducible repeat (first | refine blk_drewN ?_ _ | refine blk_drew ?_ | refine blk_alloc ?_ _)); exact blk_put (blk_put (blk_put (blk_put A.out 0 _ rfl) 1 _ rfl) 2 _ rfl) 3 _ rfl) Try.underlying27 rfl (by kernel_rfl)) rfl ?_; exact ⟨_, _, _, _, eW, by first | exact Kd.R_nil _ _ _ _ _ | exact Kd.N_nil _ _ _ _ _ | exact Kd.V_nil _ _ _ _ _ | exact Kd.Q_nil _ _ _ _ _ | exact Kd.S_nil _ _ _ _ _, by first | exact Kd.R_nil _ _ _ _ _ | exact Kd.N_nil _ _ _ _ _ | exact Kd.V_nil _ _ _ _ _ | exact Kd.Q_nil _ _ _ _ _ | exact Kd.S_nil _ _ _ _ _, by first | exact Kd.R_nil _ _ _ _ _ | exact Kd.N_nil _ _ _ _ _ | exact Kd.V_nil _ _ _ _ _ | exact Kd.Q_nil _ _ _ _ _ | exact Kd.S_nil _ _ _ _ _, by first | exact Kd.R_nil _ _ _ _ _ | exact Kd.N_nil _ _ _ _ _ | exact Kd.V_nil _ _ _ _ _ | exact Kd.Q_nil _ _ _ _ _ | exact Kd.S_nil _ _ _ _ _, bS3 HB.out B.out D.out F.out⟩
        ·rw [if_neg b4] at H; have cV := decide_eq_false b4; have cW : decide (32 < aT.length) = false := decide_eq_false (by omega); clear b4
         by_cases cx : aA.length + aT.length < 5864062014805
         ·rw [if_pos cx] at H; have cY := aM cx; clear cx; obtain ⟨be, bR⟩ : ∃ y_ : List (S73), y_ = (aA ++ aT) := ⟨_, rfl⟩
          first | replace H := rI bR H | rw [← bR] at H
          have cZ := aM bR; clear bR
          by_cases cy : az.length < 17592186044416
          ·rw [if_pos cy] at H; have c0 := aM cy; clear cy; obtain ⟨cN, bS⟩ : ∃ y_ : List Int, y_ = (az ++ [(be.length : Int)]) := ⟨_, rfl⟩
           first | replace H := rI bS H | rw [← bS] at H
           have c1 := aM bS; clear bS; have H' := aM H; clear H; have eO := bo.out; have eP := bp.out; have eQ := E.out; have eR := J.out; obtain ⟨dH, dI, dJ, dK, dL, dM⟩ := bG3 z; have bw : 0 ≤ (aG : Int) := oT aO; have bx : aG < (ay.length : Int) := oT aO; obtain ⟨cw, bW, bX, cj, a8, a9, ba⟩ := at_L4 ct.out aG bw bx; cases cj; replace a8 := cX HB a8; have bJ := aM ba; have bK := aM a9; clear ba a9; replace bw := eq_true bw; replace bx := eq_true bx
           go_wp2_with (first | ((with_reducible refine gate_callee (f := 78) rfl ?_); refine gL_ (some 31) Try.func78 #[.slice bW (rd_L4 ay aG).length bX] ?_; (with_reducible refine (tabardref11_Pack.calls k1 _ _ (rd_L4 ay aG) aT cL _ ?s1 bK.out c9.out).mono ?_); (case s1 => exact cB bJ HB); rintro e e8 ⟨da, rfl, bY, hb⟩; refine ⟨_, rfl, ?_⟩; replace av := rB av hb; replace aw := rB aw hb; replace ah := rB ah hb; have aU := rW (Kd.R_new' bY (Kd.R_lt (rP aj))) (bP3 HB B D F); replace aj := aM (Kd.R_elder' (rP aj) (Kd.R_base bY) hb); replace z := kB z hb; replace A := kB A hb; replace G := kB G hb; replace HB := hS3 HB B D F hb; (try clear hb); (try clear hk); (try clear bY); obtain ⟨dc, dd, de⟩ := sL aU; subst de; have eS := L.out; have eT := I.out; obtain ⟨dN, dO, dP, dQ, dR, dS, dU, dV⟩ := bG4 G) | ((with_reducible refine gate_builtin (b := .append) (xs := #[.tmp 39, .tmp 40]) rfl ?_); at_builtin; refine Kd.R_append_rows k73 (w0 := w) w.heap.size rfl (.tmp 39) (.tmp 40) 25 73 (.agg #[(.int .i64 0), (.int .i64 0), (.int .i64 0)]) 24 rfl Try.underlying25 info73 rfl (by decide) (by omega) bt aA aT _ _ _ (fun k_ => some k_ ≠ (.slice dc aT.length dd : Value).ownBlock) (fun _ => False) rfl rfl ?aO ?aR (fun _ _ h => h) (fun _ h => h.elim) ?aF ?aB ?aS ?aL ?_; (case aR => exact cO (rR aU).2.2); (case aB => exact (bP3 HB B D F)); (case aF => exact (fun k_ hk => Kd.fresh' (Kd.R_lt (rP aU)) k_ hk)); (case aO => exact (rM aj (fun _ hk => hk.2))); (case aS => exact (below_size (bP3 HB B D F))); (case aL => have := cY.out; omega); intro e5 e9 ho hb hg hat; rw [← cZ.out] at ho; replace av := aM (Kd.R_over' (rP av) (Kd.R_typed (rP aj)) (by decide) hg); replace aw := aM (Kd.R_over' (rP aw) (Kd.R_typed (rP aj)) (by decide) hg); replace ah := aM (Kd.R_over' (rP ah) (Kd.R_typed (rP aj)) (by decide) hg); replace z := kG z hg aj; replace A := kG A hg aj; replace G := kG G hg aj; replace aU := aM (Kd.R_after (ok := (fun _ => True)) (rP aU) hg hat); replace HB := aM (hb); have bT := aM (ho); clear aj; clear ho hb hg hat; obtain ⟨cP, cQ, df⟩ := sL bT; subst df; obtain ⟨dW, dX, dY, dZ, d0, d1, d2, d3⟩ := bG4 G) | ((with_reducible refine gate_builtin (b := .append) (xs := #[.tmp 44, .tmp 48]) rfl ?_); at_builtin; refine Kd.R_append (Kd.int .i64) (w0 := w) w.heap.size rfl (.tmp 44) (.tmp 48) 24 3 (.int .i64 0) 8 rfl Try.underlying24 info3 rfl (by decide) (by omega) a7 az (be.length : Int) [.int .i64 (be.length : Int)] (fun _ => True) (fun _ => False) rfl (by first | (go_simp; done) | (go_simp; rfl)) ?aP (fun _ hk => hk.elim) ?aF ?aO ?aB ?aS ?aL ?_; (case aP => exact rfl); (case aB => exact (bP3 HB B D F)); (case aF => exact (fun _ _ => trivial)); (case aO => exact (rZ ah G)); (case aS => exact (below_size (bP3 HB B D F))); (case aL => have := c0.out; omega); intro e6 fa ho hb hg hat; rw [← c1.out] at ho; replace av := aM (Kd.R_over' (rY av G) (Kd.R_typed (rY ah G)) (by decide) hg); replace aw := aM (Kd.R_over' (rY aw G) (Kd.R_typed (rY ah G)) (by decide) hg); replace z := aM (blk_grown (g := ab) (o := .cells #[.slice bh al.length bi, .slice bj ap.length bk, .slice (some cw) ay.length bm] 45 (0, 0)) (kN z E) hg (Kd.R_ne ah.out z.out (by decide))); replace A := aM (blk_grown (g := ae) (o := .cells #[.slice none 0 0, .slice none 0 0, .slice none 0 0, .slice none 0 0] 27 (0, 0)) (kN A I) hg (Kd.R_ne ah.out A.out (by decide))); replace aU := aM (Kd.R_over' (rY aU G) (Kd.R_typed (rY ah G)) (by decide) hg); replace bT := aM (Kd.R_over' (rY bT G) (Kd.R_typed (rY ah G)) (by decide) hg); replace G := aM (blk_grown (g := V) (o := .cells #[.slice ca aq.length cb, .slice bH aH.length bI, a7, .slice cP be.length cQ] 27 (0, 0)) (by (with_reducible repeat (first | refine blk_drewN ?_ _ | refine blk_drew ?_ | refine blk_alloc ?_ _)); exact blk_put G.out 3 _ rfl) hg (Kd.R_ne ah.out G.out (by decide))); replace HB := aM (hb); have cz := aM (ho); clear ah; clear ho hb hg hat; obtain ⟨dg, dh, di⟩ := sL cz; subst di; obtain ⟨d4, d5, d6, d7, d8, d9, ea, eb⟩ := bG4 G))
           go_roundg k1
           case measure => have := HK1.out; omega
           case rel => exact ⟨(wrap64 (aG + 1)), (cN), (be), (.slice dg cN.length dh), (.slice cP be.length cQ), sI, H', ⟨by have := HK1.out; omega⟩, ⟨rZ av G⟩, ⟨rZ aw G⟩, ⟨rZ cz G⟩, ⟨rZ bT G⟩, ⟨kN z E⟩, ⟨kN A I⟩, ⟨by (with_reducible repeat (first | refine blk_drewN ?_ _ | refine blk_drew ?_ | refine blk_alloc ?_ _)); exact blk_put G.out 2 _ rfl⟩, bT3 HB B D F⟩
          ·exact nX cy H
         ·exact nX cx H
       ·exact nX cv H
      ·rw [if_neg b3] at H; have cU := decide_eq_false b3; clear b3; simp only [Option.some.injEq, Prod.mk.injEq] at H; obtain ⟨rfl, rfl, rfl, rfl, rfl⟩ := H; have eU := bo.out; have eV := bp.out; have eX := E.out; have eY := J.out; obtain ⟨ec, ed, ee, ef, eg, eh⟩ := bG3 z; have eZ := L.out; have e0 := I.out; obtain ⟨ei, ej, ek, el, em, en, eo, ep⟩ := bG4 G; obtain ⟨er, es, et, eu, ev, ew, ex, ey⟩ := bG4 A; obtain ⟨dj, dk, dl⟩ := sL ah; subst dl; obtain ⟨dm, dn, dp⟩ := sL aj; subst dp
       go_wp2
       refine bodyPost_ret (results_ct rfl _ _ ae 27 #[.slice ca aq.length cb, .slice bH aH.length bI, .slice dj az.length dk, .slice dm aA.length dn] (0, 0) _ rfl (by (with_reducible repeat (first | refine blk_drewN ?_ _ | refine blk_drew ?_ | refine blk_alloc ?_ _)); exact blk_put (blk_put (blk_put (blk_put A.out 0 _ rfl) 1 _ rfl) 2 _ rfl) 3 _ rfl) Try.underlying27 rfl (by kernel_rfl)) rfl ?_; exact ⟨_, _, _, _, eW, rZ av A, rZ aw A, rZ ah A, rZ aj A, bS3 HB.out B.out D.out F.out⟩
   intro aQ; refine join_ (σ := Value × Value × Value × Value × Value) 2 (bl 12 1023) (fun s_ => [(8, s_.1), (11, s_.2.1), (12, s_.2.2.1), (15, s_.2.2.2.1), (16, s_.2.2.2.2), (17, .agg #[s_.2.1, s_.2.2.2.1, s_.2.2.2.2, .slice none 0 0])]) (fun s_ w' => (q_1 w') ∧ (RA Kd.string 9 w' w s_.2.1 aq) ∧ (RA Kd.bool 4 w' w s_.2.2.2.1 aH) ∧ (RA (Kd.int .i64) 3 w' w s_.2.2.2.2 aC) ∧ (q_2 w') ∧ (q_3 w') ∧ BA w w') ?_ ?_
   ·clear z A HB; rintro ⟨Y, ad, Z, a6, aa⟩ fb ⟨hHeld, U, ac, O, z, A, HB⟩; (try dsimp only at hHeld U ac O z A HB); obtain ⟨bZ, b0, bq⟩ := sL O
    (first | subst bq | (injection bq with af am ag; have an := af.symm; have ao := ag.symm; clear af am ag; subst an; subst ao))
    obtain ⟨ch, ci, bU⟩ := sL ac
    (first | subst bU | (injection bU with af am ag; have an := af.symm; have ao := ag.symm; clear af am ag; subst an; subst ao))
    obtain ⟨bH, bI, bV⟩ := sL U
    (first | subst bV | (injection bV with af am ag; have an := af.symm; have ao := ag.symm; clear af am ag; subst an; subst ao))
    refine norm_ (a' := ?_) ?_ ?_; rotate_left
    ·simp only [putAll, Act.put, sA, sB, sC]
     rfl
    refine one_ (i := 10) (N := some 4) (bl 12 2047) rfl rfl (one_of HT_.out (by kernel_rfl)) (by decide) (fun K hK => ?_); refine bs_ (cs := #[.slice none 0 0, .slice none 0 0, .slice none 0 0, .slice none 0 0]) (t := 27) ?_; intro V hg fc hbox hb; replace U := rB U hb; replace ac := rB ac hb; replace O := rB O hb; have G := aM (hbox); have W := gE hg (bP2 HB B D); have F := gE hg (bP2 HB B D); replace HB := hS2 HB B D hb; have E := nL hg z; have J := nG hg z; replace z := kB z hb; have I := nL hg A; have L := nG hg A; replace A := kB A hb; clear hb hbox hg; refine hK.out _ _ (bD3 z) (fun hHeld => ?_); clear hK K; refine nm_ 4 ?_; exact norm_ pO (aQ (Y, .slice bH aq.length bI, Z, .slice ch aH.length ci, .slice bZ aC.length b0, V) _ ⟨hHeld, rQ U, rQ ac, rQ O, kQ z, kQ A, kQ G, W, F, E, J, I, L, bT3 HB B D F⟩)
   intro bu; refine join_ (σ := Value × Value × Value × Value × Nat) 3 (bl 12 1279) (fun s_ => [(8, s_.1), (11, s_.2.1), (12, s_.2.2.1), (15, s_.2.2.2.1), (4, .pointer (some ⟨s_.2.2.2.2, 0, none⟩))]) (fun s_ w' => (q_1 w') ∧ (RA Kd.string 9 w' w s_.2.1 aq) ∧ (RA Kd.bool 4 w' w s_.2.2.2.1 aH) ∧ (q_2 w') ∧ (q_3 w') ∧ (Aside0 (w'.heap[s_.2.2.2.2]? = some (.cells #[.slice none 0 0, .slice none 0 0, .slice none 0 0, .slice none 0 0] 27 (0, 0)))) ∧ (Aside0 (w.heap.size ≤ s_.2.2.2.2)) ∧ (Aside0 (w.heap.size ≤ s_.2.2.2.2)) ∧ (Aside0 (ab ≠ s_.2.2.2.2)) ∧ (Aside0 (s_.2.2.2.2 ≠ ab)) ∧ (Aside0 (ae ≠ s_.2.2.2.2)) ∧ (Aside0 (s_.2.2.2.2 ≠ ae)) ∧ BA w w') ?_ ?_
   ·clear z A HB; rintro ⟨Y, ad, Z, a6, V⟩ bG ⟨hHeld, U, ac, z, A, G, W, F, E, J, I, L, HB⟩; (try dsimp only at hHeld U ac z A G W F E J I L HB); refine norm_ (a' := ?_) ?_ ?_; rotate_left
    ·simp only [putAll, Act.put, sA, sB, sC]
     rfl
    refine one_ (i := 8) (N := some 16) (bl 12 1535) rfl rfl (one_of HT_.out (by kernel_rfl)) (by decide) (fun K hK => ?_); refine lt_ (Kd.int .i64) 3 16 ([0] : List Int) [.int .i64 0] (Reps.one (show Kd.M (Kd.int .i64) _ _ _ 0 [.int .i64 0] from rfl) (Reps.none _ _)) ?_; intro aa cA cc hb
    replace cc := nW aE cc
    replace U := rB U hb; replace ac := rB ac hb; have O := rW cc (bP3 HB B D F); replace z := kB z hb; replace A := kB A hb; replace G := kB G hb; replace HB := hS3 HB B D F hb; clear hb cc; obtain ⟨bz, bA, aW⟩ := sL O
    (first | subst aW | (injection aW with af am ag; have an := af.symm; have ao := ag.symm; clear af am ag; subst an; subst ao))
    obtain ⟨bB, bC, aX⟩ := sL ac
    (first | subst aX | (injection aX with af am ag; have an := af.symm; have ao := ag.symm; clear af am ag; subst an; subst ao))
    obtain ⟨bZ, b0, bq⟩ := sL U
    (first | subst bq | (injection bq with af am ag; have an := af.symm; have ao := ag.symm; clear af am ag; subst an; subst ao))
    refine hK.out _ _ (bD3 z) (fun hHeld => ?_); clear hK K; refine nm_ 16 ?_; refine pu_ 9 17 (bl 12 2047) HT_ ?_; exact norm_ pO (aQ (Y, .slice bZ aq.length b0, Z, .slice bB aH.length bC, .slice bz aC.length bA, V) _ ⟨hHeld, rQ U, rQ ac, rQ O, kQ z, kQ A, kQ G, W, F, E, J, I, L, bT3 HB B D F⟩)
   intro br; refine join_ (σ := Value × Value × Value × Value × Nat) 3 (bl 12 1407) (fun s_ => [(8, s_.1), (11, s_.2.1), (12, s_.2.2.1), (16, s_.2.2.2.1), (4, .pointer (some ⟨s_.2.2.2.2, 0, none⟩))]) (fun s_ w' => (q_1 w') ∧ (RA Kd.string 9 w' w s_.2.1 aq) ∧ (RA Kd.bool 4 w' w s_.2.2.1 ax) ∧ (RA (Kd.int .i64) 3 w' w s_.2.2.2.1 aC) ∧ (q_2 w') ∧ (q_3 w') ∧ (Aside0 (w'.heap[s_.2.2.2.2]? = some (.cells #[.slice none 0 0, .slice none 0 0, .slice none 0 0, .slice none 0 0] 27 (0, 0)))) ∧ (Aside0 (w.heap.size ≤ s_.2.2.2.2)) ∧ (Aside0 (w.heap.size ≤ s_.2.2.2.2)) ∧ (Aside0 (ab ≠ s_.2.2.2.2)) ∧ (Aside0 (s_.2.2.2.2 ≠ ab)) ∧ (Aside0 (ae ≠ s_.2.2.2.2)) ∧ (Aside0 (s_.2.2.2.2 ≠ ae)) ∧ BA w w') ?_ ?_
   ·clear z A HB; rintro ⟨Y, ad, Z, aa, V⟩ cA ⟨hHeld, U, P, O, z, A, G, W, F, E, J, I, L, HB⟩; (try dsimp only at hHeld U P O z A G W F E J I L HB); refine norm_ (a' := ?_) ?_ ?_; rotate_left
    ·simp only [putAll, Act.put, sA, sB, sC]
     rfl
    refine one_ (i := 7) (N := some 15) (bl 12 1535) rfl rfl (one_of HT_.out (by kernel_rfl)) (by decide) (fun K hK => ?_); refine Kd.R_append_rows_step Kd.bool (w0 := w) w.heap.size (by rfl) (.tmp 12) (.tmp 14) 23 4 (.bool false) 1 rfl Try.underlying23 info4 rfl (by decide) (by omega) Z ax ap _ _ _ (fun _ => True) (fun _ => False) rfl rfl ?aO ?aR (fun _ _ h => h) (fun _ h => h.elim) ?aF ?aB ?aS ?aL ?_
    (case aR => exact cO (Kd.C_below bM.out HB.out))
    (case aB => exact (bP3 HB B D F))
    (case aF => exact (fun _ _ => trivial))
    (case aO => exact (rP P))
    (case aS => exact (below_size (bP3 HB B D F)))
    (case aL => have := b9.out; omega)
    intro a6 fd ho hb hg hat; rw [← bP.out] at ho; replace z := kG z hg P; replace A := kG A hg P; replace U := aM (Kd.R_over' (rP U) (Kd.R_typed (rP P)) (by decide) hg); replace O := aM (Kd.R_over' (rP O) (Kd.R_typed (rP P)) (by decide) hg); replace G := kG G hg P; replace HB := aM (hb); have ac := aM (ho); clear P; clear ho hb hg hat; obtain ⟨bz, bA, aW⟩ := sL O
    (first | subst aW | (injection aW with af am ag; have an := af.symm; have ao := ag.symm; clear af am ag; subst an; subst ao))
    obtain ⟨bB, bC, aX⟩ := sL ac
    (first | subst aX | (injection aX with af am ag; have an := af.symm; have ao := ag.symm; clear af am ag; subst an; subst ao))
    obtain ⟨bZ, b0, bq⟩ := sL U
    (first | subst bq | (injection bq with af am ag; have an := af.symm; have ao := ag.symm; clear af am ag; subst an; subst ao))
    refine hK.out _ _ (bD3 z) (fun hHeld => ?_); clear hK K; refine nm_ 15 ?_; refine pu_ 9 17 (bl 12 2047) HT_ ?_; exact norm_ pO (aQ (Y, .slice bZ aq.length b0, Z, .slice bB aH.length bC, .slice bz aC.length bA, V) _ ⟨hHeld, rQ U, rQ ac, rQ O, kQ z, kQ A, kQ G, W, F, E, J, I, L, bT3 HB B D F⟩)
   intro aJ; refine join_ (σ := Value × Value × Value × Value) 4 (bl 12 255) (fun s_ => [(8, s_.1), (11, s_.2.1), (12, s_.2.2.1), (15, s_.2.2.2)]) (fun s_ w' => (q_1 w') ∧ (RA Kd.string 9 w' w s_.2.1 aq) ∧ (RA Kd.bool 4 w' w s_.2.2.2 aH) ∧ (q_2 w') ∧ (q_3 w') ∧ BA w w') ?_ ?_
   ·clear z A HB; rintro ⟨Y, ad, Z, a6⟩ bb ⟨hHeld, U, ac, z, A, HB⟩; (try dsimp only at hHeld U ac z A HB); refine norm_ (a' := ?_) ?_ ?_; rotate_left
    ·simp only [putAll, Act.put, sA, sB, sC]
     rfl
    refine two_ (i := 8) (j := 10) (Ni := some 16) (Nj := some 4) (bl 12 511) (bl 12 1279) rfl rfl rfl rfl (two_of HT_.out (by kernel_rfl)) (by decide) (by decide) (fun K hK => ?_) (fun K hK => ?_)
    ·refine lt_ (Kd.int .i64) 3 16 ([0] : List Int) [.int .i64 0] (Reps.one (show Kd.M (Kd.int .i64) _ _ _ 0 [.int .i64 0] from rfl) (Reps.none _ _)) ?_; intro aa bG aK hb
     replace aK := nW aE aK
     replace U := rB U hb; replace ac := rB ac hb; have O := rW aK (bP2 HB B D); replace z := kB z hb; replace A := kB A hb; replace HB := hS2 HB B D hb; clear hb aK; obtain ⟨ck, cl, b1⟩ := sL O
     (first | subst b1 | (injection b1 with af am ag; have an := af.symm; have ao := ag.symm; clear af am ag; subst an; subst ao))
     obtain ⟨bz, bA, aW⟩ := sL ac
     (first | subst aW | (injection aW with af am ag; have an := af.symm; have ao := ag.symm; clear af am ag; subst an; subst ao))
     obtain ⟨bB, bC, aX⟩ := sL U
     (first | subst aX | (injection aX with af am ag; have an := af.symm; have ao := ag.symm; clear af am ag; subst an; subst ao))
     refine hK.out _ _ (bD3 z) (fun hHeld => ?_); clear hK K; refine nm_ 16 ?_; refine pu_ 9 17 (bl 12 1023) HT_ ?_; exact norm_ pO (bu (Y, .slice bB aq.length bC, Z, .slice bz aH.length bA, .slice ck aC.length cl) _ ⟨hHeld, rQ U, rQ ac, rQ O, kQ z, kQ A, bT2 HB B D⟩)
    ·refine bs_ (cs := #[.slice none 0 0, .slice none 0 0, .slice none 0 0, .slice none 0 0]) (t := 27) ?_; intro V hg bG hbox hb; replace U := rB U hb; replace ac := rB ac hb; have G := aM (hbox); have W := gE hg (bP2 HB B D); have F := gE hg (bP2 HB B D); replace HB := hS2 HB B D hb; have E := nL hg z; have J := nG hg z; replace z := kB z hb; have I := nL hg A; have L := nG hg A; replace A := kB A hb; clear hb hbox hg; refine hK.out _ _ (bD3 z) (fun hHeld => ?_); clear hK K; refine nm_ 4 ?_; exact norm_ pO (br (Y, ad, Z, a6, V) _ ⟨hHeld, rQ U, rQ ac, kQ z, kQ A, kQ G, W, F, E, J, I, L, bT3 HB B D F⟩)
   intro cd; refine join_ (σ := Value × Value × Value × Value) 4 (bl 12 383) (fun s_ => [(8, s_.1), (11, s_.2.1), (12, s_.2.2.1), (16, s_.2.2.2)]) (fun s_ w' => (q_1 w') ∧ (RA Kd.string 9 w' w s_.2.1 aq) ∧ (RA Kd.bool 4 w' w s_.2.2.1 ax) ∧ (RA (Kd.int .i64) 3 w' w s_.2.2.2 aC) ∧ (q_2 w') ∧ (q_3 w') ∧ BA w w') ?_ ?_
   ·clear z A HB; rintro ⟨Y, ad, Z, aa⟩ bG ⟨hHeld, U, P, O, z, A, HB⟩; (try dsimp only at hHeld U P O z A HB); refine norm_ (a' := ?_) ?_ ?_; rotate_left
    ·simp only [putAll, Act.put, sA, sB, sC]
     rfl
    refine two_ (i := 7) (j := 10) (Ni := some 15) (Nj := some 4) (bl 12 511) (bl 12 1407) rfl rfl rfl rfl (two_of HT_.out (by kernel_rfl)) (by decide) (by decide) (fun K hK => ?_) (fun K hK => ?_)
    ·refine Kd.R_append_rows_step Kd.bool (w0 := w) w.heap.size (by rfl) (.tmp 12) (.tmp 14) 23 4 (.bool false) 1 rfl Try.underlying23 info4 rfl (by decide) (by omega) Z ax ap _ _ _ (fun _ => True) (fun _ => False) rfl rfl ?aO ?aR (fun _ _ h => h) (fun _ h => h.elim) ?aF ?aB ?aS ?aL ?_
     (case aR => exact cO (Kd.C_below bM.out HB.out))
     (case aB => exact (bP2 HB B D))
     (case aF => exact (fun _ _ => trivial))
     (case aO => exact (rP P))
     (case aS => exact (below_size (bP2 HB B D)))
     (case aL => have := b9.out; omega)
     intro a6 cA ho hb hg hat; rw [← bP.out] at ho; replace z := kG z hg P; replace A := kG A hg P; replace U := aM (Kd.R_over' (rP U) (Kd.R_typed (rP P)) (by decide) hg); replace O := aM (Kd.R_over' (rP O) (Kd.R_typed (rP P)) (by decide) hg); replace HB := aM (hb); have ac := aM (ho); clear P; clear ho hb hg hat; obtain ⟨ck, cl, b1⟩ := sL O
     (first | subst b1 | (injection b1 with af am ag; have an := af.symm; have ao := ag.symm; clear af am ag; subst an; subst ao))
     obtain ⟨bz, bA, aW⟩ := sL ac
     (first | subst aW | (injection aW with af am ag; have an := af.symm; have ao := ag.symm; clear af am ag; subst an; subst ao))
     obtain ⟨bB, bC, aX⟩ := sL U
     (first | subst aX | (injection aX with af am ag; have an := af.symm; have ao := ag.symm; clear af am ag; subst an; subst ao))
     refine hK.out _ _ (bD3 z) (fun hHeld => ?_); clear hK K; refine nm_ 15 ?_; refine pu_ 9 17 (bl 12 1023) HT_ ?_; exact norm_ pO (bu (Y, .slice bB aq.length bC, Z, .slice bz aH.length bA, .slice ck aC.length cl) _ ⟨hHeld, rQ U, rQ ac, rQ O, kQ z, kQ A, bT2 HB B D⟩)
    ·refine bs_ (cs := #[.slice none 0 0, .slice none 0 0, .slice none 0 0, .slice none 0 0]) (t := 27) ?_; intro V hg cA hbox hb; replace U := rB U hb; replace P := rB P hb; replace O := rB O hb; have G := aM (hbox); have W := gE hg (bP2 HB B D); have F := gE hg (bP2 HB B D); replace HB := hS2 HB B D hb; have E := nL hg z; have J := nG hg z; replace z := kB z hb; have I := nL hg A; have L := nG hg A; replace A := kB A hb; clear hb hbox hg; refine hK.out _ _ (bD3 z) (fun hHeld => ?_); clear hK K; refine nm_ 4 ?_; exact norm_ pO (aJ (Y, ad, Z, aa, V) _ ⟨hHeld, rQ U, rQ P, rQ O, kQ z, kQ A, kQ G, W, F, E, J, I, L, bT3 HB B D F⟩)
   intro bs; refine join_ (σ := Value × Value × Value × Nat) 4 (bl 12 1151) (fun s_ => [(8, s_.1), (11, s_.2.1), (12, s_.2.2.1), (4, .pointer (some ⟨s_.2.2.2, 0, none⟩))]) (fun s_ w' => (q_1 w') ∧ (RA Kd.string 9 w' w s_.2.1 aq) ∧ (RA Kd.bool 4 w' w s_.2.2.1 ax) ∧ (q_2 w') ∧ (q_3 w') ∧ (Aside0 (w'.heap[s_.2.2.2]? = some (.cells #[.slice none 0 0, .slice none 0 0, .slice none 0 0, .slice none 0 0] 27 (0, 0)))) ∧ (Aside0 (w.heap.size ≤ s_.2.2.2)) ∧ (Aside0 (w.heap.size ≤ s_.2.2.2)) ∧ (Aside0 (ab ≠ s_.2.2.2)) ∧ (Aside0 (s_.2.2.2 ≠ ab)) ∧ (Aside0 (ae ≠ s_.2.2.2)) ∧ (Aside0 (s_.2.2.2 ≠ ae)) ∧ BA w w') ?_ ?_
   ·clear z A HB; rintro ⟨Y, ad, Z, V⟩ bb ⟨hHeld, U, P, z, A, G, W, F, E, J, I, L, HB⟩; (try dsimp only at hHeld U P z A G W F E J I L HB); refine norm_ (a' := ?_) ?_ ?_; rotate_left
    ·simp only [putAll, Act.put, sA, sB, sC]
     rfl
    refine two_ (i := 7) (j := 8) (Ni := some 15) (Nj := some 16) (bl 12 1279) (bl 12 1407) rfl rfl rfl rfl (two_of HT_.out (by kernel_rfl)) (by decide) (by decide) (fun K hK => ?_) (fun K hK => ?_)
    ·refine Kd.R_append_rows_step Kd.bool (w0 := w) w.heap.size (by rfl) (.tmp 12) (.tmp 14) 23 4 (.bool false) 1 rfl Try.underlying23 info4 rfl (by decide) (by omega) Z ax ap _ _ _ (fun _ => True) (fun _ => False) rfl rfl ?aO ?aR (fun _ _ h => h) (fun _ h => h.elim) ?aF ?aB ?aS ?aL ?_
     (case aR => exact cO (Kd.C_below bM.out HB.out))
     (case aB => exact (bP3 HB B D F))
     (case aF => exact (fun _ _ => trivial))
     (case aO => exact (rP P))
     (case aS => exact (below_size (bP3 HB B D F)))
     (case aL => have := b9.out; omega)
     intro a6 bG ho hb hg hat; rw [← bP.out] at ho; replace z := kG z hg P; replace A := kG A hg P; replace U := aM (Kd.R_over' (rP U) (Kd.R_typed (rP P)) (by decide) hg); replace G := kG G hg P; replace HB := aM (hb); have ac := aM (ho); clear P; clear ho hb hg hat; refine hK.out _ _ (bD3 z) (fun hHeld => ?_); clear hK K; refine nm_ 15 ?_; exact norm_ pO (br (Y, ad, Z, a6, V) _ ⟨hHeld, rQ U, rQ ac, kQ z, kQ A, kQ G, W, F, E, J, I, L, bT3 HB B D F⟩)
    ·refine lt_ (Kd.int .i64) 3 16 ([0] : List Int) [.int .i64 0] (Reps.one (show Kd.M (Kd.int .i64) _ _ _ 0 [.int .i64 0] from rfl) (Reps.none _ _)) ?_; intro aa bG aK hb
     replace aK := nW aE aK
     replace U := rB U hb; replace P := rB P hb; have O := rW aK (bP3 HB B D F); replace z := kB z hb; replace A := kB A hb; replace G := kB G hb; replace HB := hS3 HB B D F hb; clear hb aK; refine hK.out _ _ (bD3 z) (fun hHeld => ?_); clear hK K; refine nm_ 16 ?_; exact norm_ pO (aJ (Y, ad, Z, aa, V) _ ⟨hHeld, rQ U, rQ P, rQ O, kQ z, kQ A, kQ G, W, F, E, J, I, L, bT3 HB B D F⟩)
   intro bf; refine join_ (σ := Value × Value × Value × Nat) 4 (bl 12 1391) (fun s_ => [(8, s_.1), (11, s_.2.1), (16, s_.2.2.1), (4, .pointer (some ⟨s_.2.2.2, 0, none⟩))]) (fun s_ w' => (q_1 w') ∧ (RA Kd.string 9 w' w s_.2.1 aq) ∧ (RA (Kd.int .i64) 3 w' w s_.2.2.1 aC) ∧ (q_2 w') ∧ (q_3 w') ∧ (Aside0 (w'.heap[s_.2.2.2]? = some (.cells #[.slice none 0 0, .slice none 0 0, .slice none 0 0, .slice none 0 0] 27 (0, 0)))) ∧ (Aside0 (w.heap.size ≤ s_.2.2.2)) ∧ (Aside0 (w.heap.size ≤ s_.2.2.2)) ∧ (Aside0 (ab ≠ s_.2.2.2)) ∧ (Aside0 (s_.2.2.2 ≠ ab)) ∧ (Aside0 (ae ≠ s_.2.2.2)) ∧ (Aside0 (s_.2.2.2 ≠ ae)) ∧ BA w w') ?_ ?_
   ·clear z A HB; rintro ⟨Y, ad, aa, V⟩ bb ⟨hHeld, U, O, z, A, G, W, F, E, J, I, L, HB⟩; (try dsimp only at hHeld U O z A G W F E J I L HB); refine norm_ (a' := ?_) ?_ ?_; rotate_left
    ·simp only [putAll, Act.put, sA, sB, sC]
     rfl
    refine one_ (i := 4) (N := some 12) (bl 12 1407) rfl rfl (one_of HT_.out (by kernel_rfl)) (by decide) (fun K hK => ?_); refine lt_ Kd.bool 4 12 ([] : List Bool) [] (Reps.none _ _) ?_; intro Z bG aK hb
    replace aK := nW aI aK
    replace U := rB U hb; replace O := rB O hb; have P := rW aK (bP3 HB B D F); replace z := kB z hb; replace A := kB A hb; replace G := kB G hb; replace HB := hS3 HB B D F hb; clear hb aK; refine hK.out _ _ (bD3 z) (fun hHeld => ?_); clear hK K; refine nm_ 12 ?_; exact norm_ pO (aJ (Y, ad, Z, aa, V) _ ⟨hHeld, rQ U, rQ P, rQ O, kQ z, kQ A, kQ G, W, F, E, J, I, L, bT3 HB B D F⟩)
   intro bg; refine join_ (σ := Value × Value × Value × Nat) 4 (bl 12 1399) (fun s_ => [(8, s_.1), (12, s_.2.1), (16, s_.2.2.1), (4, .pointer (some ⟨s_.2.2.2, 0, none⟩))]) (fun s_ w' => (q_1 w') ∧ (RA Kd.string 9 w' w s_.1 aD) ∧ (RA Kd.bool 4 w' w s_.2.1 ax) ∧ (RA (Kd.int .i64) 3 w' w s_.2.2.1 aC) ∧ (q_2 w') ∧ (q_3 w') ∧ (Aside0 (w'.heap[s_.2.2.2]? = some (.cells #[.slice none 0 0, .slice none 0 0, .slice none 0 0, .slice none 0 0] 27 (0, 0)))) ∧ (Aside0 (w.heap.size ≤ s_.2.2.2)) ∧ (Aside0 (w.heap.size ≤ s_.2.2.2)) ∧ (Aside0 (ab ≠ s_.2.2.2)) ∧ (Aside0 (s_.2.2.2 ≠ ab)) ∧ (Aside0 (ae ≠ s_.2.2.2)) ∧ (Aside0 (s_.2.2.2 ≠ ae)) ∧ BA w w') ?_ ?_
   ·clear z A HB; rintro ⟨Y, Z, aa, V⟩ bG ⟨hHeld, Q, P, O, z, A, G, W, F, E, J, I, L, HB⟩; (try dsimp only at hHeld Q P O z A G W F E J I L HB); refine norm_ (a' := ?_) ?_ ?_; rotate_left
    ·simp only [putAll, Act.put, sA, sB, sC]
     rfl
    refine one_ (i := 3) (N := some 11) (bl 12 1407) rfl rfl (one_of HT_.out (by kernel_rfl)) (by decide) (fun K hK => ?_); refine Kd.R_append_rows_step Kd.string (w0 := w) w.heap.size (by rfl) (.tmp 8) (.tmp 10) 22 9 (.string ⟨#[]⟩) 16 rfl Try.underlying22 info9 rfl (by decide) (by omega) Y aD al _ _ _ (fun _ => True) (fun _ => False) rfl rfl ?aO ?aR (fun _ _ h => h) (fun _ h => h.elim) ?aF ?aB ?aS ?aL ?_
    (case aR => exact cO (Kd.C_below aY.out HB.out))
    (case aB => exact (bP3 HB B D F))
    (case aF => exact (fun _ _ => trivial))
    (case aO => exact (rP Q))
    (case aS => exact (below_size (bP3 HB B D F)))
    (case aL => have := bn.out; omega)
    intro ad cA ho hb hg hat; rw [← a3.out] at ho; replace z := kG z hg Q; replace A := kG A hg Q; replace P := aM (Kd.R_over' (rP P) (Kd.R_typed (rP Q)) (by decide) hg); replace O := aM (Kd.R_over' (rP O) (Kd.R_typed (rP Q)) (by decide) hg); replace G := kG G hg Q; replace HB := aM (hb); have U := aM (ho); clear Q; clear ho hb hg hat; refine hK.out _ _ (bD3 z) (fun hHeld => ?_); clear hK K; refine nm_ 11 ?_; exact norm_ pO (aJ (Y, ad, Z, aa, V) _ ⟨hHeld, rQ U, rQ P, rQ O, kQ z, kQ A, kQ G, W, F, E, J, I, L, bT3 HB B D F⟩)
   intro aV; refine join_ (σ := Value × Value × Value) 5 (bl 12 127) (fun s_ => [(8, s_.1), (11, s_.2.1), (12, s_.2.2)]) (fun s_ w' => (q_1 w') ∧ (RA Kd.string 9 w' w s_.2.1 aq) ∧ (RA Kd.bool 4 w' w s_.2.2 ax) ∧ (q_2 w') ∧ (q_3 w') ∧ BA w w') ?_ ?_
   ·clear z A HB; rintro ⟨Y, ad, Z⟩ a4 ⟨hHeld, U, P, z, A, HB⟩; (try dsimp only at hHeld U P z A HB); refine norm_ (a' := ?_) ?_ ?_; rotate_left
    ·simp only [putAll, Act.put, sA, sB, sC]
     rfl
    refine three_ (i := 7) (j := 8) (k := 10) (Ni := some 15) (Nj := some 16) (Nk := some 4) (bl 12 255) (bl 12 383) (bl 12 1151) rfl rfl rfl rfl rfl rfl (three_of HT_.out (by kernel_rfl)) (by decide) (by decide) (by decide) (fun K hK => ?_) (fun K hK => ?_) (fun K hK => ?_)
    ·refine Kd.R_append_rows_step Kd.bool (w0 := w) w.heap.size (by rfl) (.tmp 12) (.tmp 14) 23 4 (.bool false) 1 rfl Try.underlying23 info4 rfl (by decide) (by omega) Z ax ap _ _ _ (fun _ => True) (fun _ => False) rfl rfl ?aO ?aR (fun _ _ h => h) (fun _ h => h.elim) ?aF ?aB ?aS ?aL ?_
     (case aR => exact cO (Kd.C_below bM.out HB.out))
     (case aB => exact (bP2 HB B D))
     (case aF => exact (fun _ _ => trivial))
     (case aO => exact (rP P))
     (case aS => exact (below_size (bP2 HB B D)))
     (case aL => have := b9.out; omega)
     intro a6 bb ho hb hg hat; rw [← bP.out] at ho; replace z := kG z hg P; replace A := kG A hg P; replace U := aM (Kd.R_over' (rP U) (Kd.R_typed (rP P)) (by decide) hg); replace HB := aM (hb); have ac := aM (ho); clear P; clear ho hb hg hat; refine hK.out _ _ (bD3 z) (fun hHeld => ?_); clear hK K; refine nm_ 15 ?_; exact norm_ pO (cd (Y, ad, Z, a6) _ ⟨hHeld, rQ U, rQ ac, kQ z, kQ A, bT2 HB B D⟩)
    ·refine lt_ (Kd.int .i64) 3 16 ([0] : List Int) [.int .i64 0] (Reps.one (show Kd.M (Kd.int .i64) _ _ _ 0 [.int .i64 0] from rfl) (Reps.none _ _)) ?_; intro aa bb ar hb
     replace ar := nW aE ar
     replace U := rB U hb; replace P := rB P hb; have O := rW ar (bP2 HB B D); replace z := kB z hb; replace A := kB A hb; replace HB := hS2 HB B D hb; clear hb ar; refine hK.out _ _ (bD3 z) (fun hHeld => ?_); clear hK K; refine nm_ 16 ?_; exact norm_ pO (bs (Y, ad, Z, aa) _ ⟨hHeld, rQ U, rQ P, rQ O, kQ z, kQ A, bT2 HB B D⟩)
    ·refine bs_ (cs := #[.slice none 0 0, .slice none 0 0, .slice none 0 0, .slice none 0 0]) (t := 27) ?_; intro V hg bb hbox hb; replace U := rB U hb; replace P := rB P hb; have G := aM (hbox); have W := gE hg (bP2 HB B D); have F := gE hg (bP2 HB B D); replace HB := hS2 HB B D hb; have E := nL hg z; have J := nG hg z; replace z := kB z hb; have I := nL hg A; have L := nG hg A; replace A := kB A hb; clear hb hbox hg; refine hK.out _ _ (bD3 z) (fun hHeld => ?_); clear hK K; refine nm_ 4 ?_; exact norm_ pO (bf (Y, ad, Z, V) _ ⟨hHeld, rQ U, rQ P, kQ z, kQ A, kQ G, W, F, E, J, I, L, bT3 HB B D F⟩)
   intro b5; refine join_ (σ := Value × Value × Value) 5 (bl 12 367) (fun s_ => [(8, s_.1), (11, s_.2.1), (16, s_.2.2)]) (fun s_ w' => (q_1 w') ∧ (RA Kd.string 9 w' w s_.2.1 aq) ∧ (RA (Kd.int .i64) 3 w' w s_.2.2 aC) ∧ (q_2 w') ∧ (q_3 w') ∧ BA w w') ?_ ?_
   ·clear z A HB; rintro ⟨Y, ad, aa⟩ a4 ⟨hHeld, U, O, z, A, HB⟩; (try dsimp only at hHeld U O z A HB); refine norm_ (a' := ?_) ?_ ?_; rotate_left
    ·simp only [putAll, Act.put, sA, sB, sC]
     rfl
    refine two_ (i := 4) (j := 10) (Ni := some 12) (Nj := some 4) (bl 12 383) (bl 12 1391) rfl rfl rfl rfl (two_of HT_.out (by kernel_rfl)) (by decide) (by decide) (fun K hK => ?_) (fun K hK => ?_)
    ·refine lt_ Kd.bool 4 12 ([] : List Bool) [] (Reps.none _ _) ?_; intro Z bb ar hb
     replace ar := nW aI ar
     replace U := rB U hb; replace O := rB O hb; have P := rW ar (bP2 HB B D); replace z := kB z hb; replace A := kB A hb; replace HB := hS2 HB B D hb; clear hb ar; refine hK.out _ _ (bD3 z) (fun hHeld => ?_); clear hK K; refine nm_ 12 ?_; exact norm_ pO (bs (Y, ad, Z, aa) _ ⟨hHeld, rQ U, rQ P, rQ O, kQ z, kQ A, bT2 HB B D⟩)
    ·refine bs_ (cs := #[.slice none 0 0, .slice none 0 0, .slice none 0 0, .slice none 0 0]) (t := 27) ?_; intro V hg bb hbox hb; replace U := rB U hb; replace O := rB O hb; have G := aM (hbox); have W := gE hg (bP2 HB B D); have F := gE hg (bP2 HB B D); replace HB := hS2 HB B D hb; have E := nL hg z; have J := nG hg z; replace z := kB z hb; have I := nL hg A; have L := nG hg A; replace A := kB A hb; clear hb hbox hg; refine hK.out _ _ (bD3 z) (fun hHeld => ?_); clear hK K; refine nm_ 4 ?_; exact norm_ pO (bg (Y, ad, aa, V) _ ⟨hHeld, rQ U, rQ O, kQ z, kQ A, kQ G, W, F, E, J, I, L, bT3 HB B D F⟩)
   intro b6; refine join_ (σ := Value × Value × Nat) 5 (bl 12 1135) (fun s_ => [(8, s_.1), (11, s_.2.1), (4, .pointer (some ⟨s_.2.2, 0, none⟩))]) (fun s_ w' => (q_1 w') ∧ (RA Kd.string 9 w' w s_.2.1 aq) ∧ (q_2 w') ∧ (q_3 w') ∧ (Aside0 (w'.heap[s_.2.2]? = some (.cells #[.slice none 0 0, .slice none 0 0, .slice none 0 0, .slice none 0 0] 27 (0, 0)))) ∧ (Aside0 (w.heap.size ≤ s_.2.2)) ∧ (Aside0 (w.heap.size ≤ s_.2.2)) ∧ (Aside0 (ab ≠ s_.2.2)) ∧ (Aside0 (s_.2.2 ≠ ab)) ∧ (Aside0 (ae ≠ s_.2.2)) ∧ (Aside0 (s_.2.2 ≠ ae)) ∧ BA w w') ?_ ?_
   ·clear z A HB; rintro ⟨Y, ad, V⟩ bc ⟨hHeld, U, z, A, G, W, F, E, J, I, L, HB⟩; (try dsimp only at hHeld U z A G W F E J I L HB); refine norm_ (a' := ?_) ?_ ?_; rotate_left
    ·simp only [putAll, Act.put, sA, sB, sC]
     rfl
    refine two_ (i := 4) (j := 8) (Ni := some 12) (Nj := some 16) (bl 12 1151) (bl 12 1391) rfl rfl rfl rfl (two_of HT_.out (by kernel_rfl)) (by decide) (by decide) (fun K hK => ?_) (fun K hK => ?_)
    ·refine lt_ Kd.bool 4 12 ([] : List Bool) [] (Reps.none _ _) ?_; intro Z a4 au hb
     replace au := nW aI au
     replace U := rB U hb; have P := rW au (bP3 HB B D F); replace z := kB z hb; replace A := kB A hb; replace G := kB G hb; replace HB := hS3 HB B D F hb; clear hb au; refine hK.out _ _ (bD3 z) (fun hHeld => ?_); clear hK K; refine nm_ 12 ?_; exact norm_ pO (bf (Y, ad, Z, V) _ ⟨hHeld, rQ U, rQ P, kQ z, kQ A, kQ G, W, F, E, J, I, L, bT3 HB B D F⟩)
    ·refine lt_ (Kd.int .i64) 3 16 ([0] : List Int) [.int .i64 0] (Reps.one (show Kd.M (Kd.int .i64) _ _ _ 0 [.int .i64 0] from rfl) (Reps.none _ _)) ?_; intro aa a4 au hb
     replace au := nW aE au
     replace U := rB U hb; have O := rW au (bP3 HB B D F); replace z := kB z hb; replace A := kB A hb; replace G := kB G hb; replace HB := hS3 HB B D F hb; clear hb au; refine hK.out _ _ (bD3 z) (fun hHeld => ?_); clear hK K; refine nm_ 16 ?_; exact norm_ pO (bg (Y, ad, aa, V) _ ⟨hHeld, rQ U, rQ O, kQ z, kQ A, kQ G, W, F, E, J, I, L, bT3 HB B D F⟩)
   intro b2; refine join_ (σ := Value × Value × Value) 5 (bl 12 375) (fun s_ => [(8, s_.1), (12, s_.2.1), (16, s_.2.2)]) (fun s_ w' => (q_1 w') ∧ (RA Kd.string 9 w' w s_.1 aD) ∧ (RA Kd.bool 4 w' w s_.2.1 ax) ∧ (RA (Kd.int .i64) 3 w' w s_.2.2 aC) ∧ (q_2 w') ∧ (q_3 w') ∧ BA w w') ?_ ?_
   ·clear z A HB; rintro ⟨Y, Z, aa⟩ bb ⟨hHeld, Q, P, O, z, A, HB⟩; (try dsimp only at hHeld Q P O z A HB); refine norm_ (a' := ?_) ?_ ?_; rotate_left
    ·simp only [putAll, Act.put, sA, sB, sC]
     rfl
    refine two_ (i := 3) (j := 10) (Ni := some 11) (Nj := some 4) (bl 12 383) (bl 12 1399) rfl rfl rfl rfl (two_of HT_.out (by kernel_rfl)) (by decide) (by decide) (fun K hK => ?_) (fun K hK => ?_)
    ·refine Kd.R_append_rows_step Kd.string (w0 := w) w.heap.size (by rfl) (.tmp 8) (.tmp 10) 22 9 (.string ⟨#[]⟩) 16 rfl Try.underlying22 info9 rfl (by decide) (by omega) Y aD al _ _ _ (fun _ => True) (fun _ => False) rfl rfl ?aO ?aR (fun _ _ h => h) (fun _ h => h.elim) ?aF ?aB ?aS ?aL ?_
     (case aR => exact cO (Kd.C_below aY.out HB.out))
     (case aB => exact (bP2 HB B D))
     (case aF => exact (fun _ _ => trivial))
     (case aO => exact (rP Q))
     (case aS => exact (below_size (bP2 HB B D)))
     (case aL => have := bn.out; omega)
     intro ad bG ho hb hg hat; rw [← a3.out] at ho; replace z := kG z hg Q; replace A := kG A hg Q; replace P := aM (Kd.R_over' (rP P) (Kd.R_typed (rP Q)) (by decide) hg); replace O := aM (Kd.R_over' (rP O) (Kd.R_typed (rP Q)) (by decide) hg); replace HB := aM (hb); have U := aM (ho); clear Q; clear ho hb hg hat; refine hK.out _ _ (bD3 z) (fun hHeld => ?_); clear hK K; refine nm_ 11 ?_; exact norm_ pO (bs (Y, ad, Z, aa) _ ⟨hHeld, rQ U, rQ P, rQ O, kQ z, kQ A, bT2 HB B D⟩)
    ·refine bs_ (cs := #[.slice none 0 0, .slice none 0 0, .slice none 0 0, .slice none 0 0]) (t := 27) ?_; intro V hg bG hbox hb; replace Q := rB Q hb; replace P := rB P hb; replace O := rB O hb; have G := aM (hbox); have W := gE hg (bP2 HB B D); have F := gE hg (bP2 HB B D); replace HB := hS2 HB B D hb; have E := nL hg z; have J := nG hg z; replace z := kB z hb; have I := nL hg A; have L := nG hg A; replace A := kB A hb; clear hb hbox hg; refine hK.out _ _ (bD3 z) (fun hHeld => ?_); clear hK K; refine nm_ 4 ?_; exact norm_ pO (aV (Y, Z, aa, V) _ ⟨hHeld, rQ Q, rQ P, rQ O, kQ z, kQ A, kQ G, W, F, E, J, I, L, bT3 HB B D F⟩)
   intro bL; refine join_ (σ := Value × Value × Nat) 5 (bl 12 1143) (fun s_ => [(8, s_.1), (12, s_.2.1), (4, .pointer (some ⟨s_.2.2, 0, none⟩))]) (fun s_ w' => (q_1 w') ∧ (RA Kd.string 9 w' w s_.1 aD) ∧ (RA Kd.bool 4 w' w s_.2.1 ax) ∧ (q_2 w') ∧ (q_3 w') ∧ (Aside0 (w'.heap[s_.2.2]? = some (.cells #[.slice none 0 0, .slice none 0 0, .slice none 0 0, .slice none 0 0] 27 (0, 0)))) ∧ (Aside0 (w.heap.size ≤ s_.2.2)) ∧ (Aside0 (w.heap.size ≤ s_.2.2)) ∧ (Aside0 (ab ≠ s_.2.2)) ∧ (Aside0 (s_.2.2 ≠ ab)) ∧ (Aside0 (ae ≠ s_.2.2)) ∧ (Aside0 (s_.2.2 ≠ ae)) ∧ BA w w') ?_ ?_
   ·clear z A HB; rintro ⟨Y, Z, V⟩ a4 ⟨hHeld, Q, P, z, A, G, W, F, E, J, I, L, HB⟩; (try dsimp only at hHeld Q P z A G W F E J I L HB); refine norm_ (a' := ?_) ?_ ?_; rotate_left
    ·simp only [putAll, Act.put, sA, sB, sC]
     rfl
    refine two_ (i := 3) (j := 8) (Ni := some 11) (Nj := some 16) (bl 12 1151) (bl 12 1399) rfl rfl rfl rfl (two_of HT_.out (by kernel_rfl)) (by decide) (by decide) (fun K hK => ?_) (fun K hK => ?_)
    ·refine Kd.R_append_rows_step Kd.string (w0 := w) w.heap.size (by rfl) (.tmp 8) (.tmp 10) 22 9 (.string ⟨#[]⟩) 16 rfl Try.underlying22 info9 rfl (by decide) (by omega) Y aD al _ _ _ (fun _ => True) (fun _ => False) rfl rfl ?aO ?aR (fun _ _ h => h) (fun _ h => h.elim) ?aF ?aB ?aS ?aL ?_
     (case aR => exact cO (Kd.C_below aY.out HB.out))
     (case aB => exact (bP3 HB B D F))
     (case aF => exact (fun _ _ => trivial))
     (case aO => exact (rP Q))
     (case aS => exact (below_size (bP3 HB B D F)))
     (case aL => have := bn.out; omega)
     intro ad bb ho hb hg hat; rw [← a3.out] at ho; replace z := kG z hg Q; replace A := kG A hg Q; replace P := aM (Kd.R_over' (rP P) (Kd.R_typed (rP Q)) (by decide) hg); replace G := kG G hg Q; replace HB := aM (hb); have U := aM (ho); clear Q; clear ho hb hg hat; refine hK.out _ _ (bD3 z) (fun hHeld => ?_); clear hK K; refine nm_ 11 ?_; exact norm_ pO (bf (Y, ad, Z, V) _ ⟨hHeld, rQ U, rQ P, kQ z, kQ A, kQ G, W, F, E, J, I, L, bT3 HB B D F⟩)
    ·refine lt_ (Kd.int .i64) 3 16 ([0] : List Int) [.int .i64 0] (Reps.one (show Kd.M (Kd.int .i64) _ _ _ 0 [.int .i64 0] from rfl) (Reps.none _ _)) ?_; intro aa bb ar hb
     replace ar := nW aE ar
     replace Q := rB Q hb; replace P := rB P hb; have O := rW ar (bP3 HB B D F); replace z := kB z hb; replace A := kB A hb; replace G := kB G hb; replace HB := hS3 HB B D F hb; clear hb ar; refine hK.out _ _ (bD3 z) (fun hHeld => ?_); clear hK K; refine nm_ 16 ?_; exact norm_ pO (aV (Y, Z, aa, V) _ ⟨hHeld, rQ Q, rQ P, rQ O, kQ z, kQ A, kQ G, W, F, E, J, I, L, bT3 HB B D F⟩)
   intro bD; refine join_ (σ := Value × Value × Nat) 5 (bl 12 1383) (fun s_ => [(8, s_.1), (16, s_.2.1), (4, .pointer (some ⟨s_.2.2, 0, none⟩))]) (fun s_ w' => (q_1 w') ∧ (RA Kd.string 9 w' w s_.1 aD) ∧ (RA (Kd.int .i64) 3 w' w s_.2.1 aC) ∧ (q_2 w') ∧ (q_3 w') ∧ (Aside0 (w'.heap[s_.2.2]? = some (.cells #[.slice none 0 0, .slice none 0 0, .slice none 0 0, .slice none 0 0] 27 (0, 0)))) ∧ (Aside0 (w.heap.size ≤ s_.2.2)) ∧ (Aside0 (w.heap.size ≤ s_.2.2)) ∧ (Aside0 (ab ≠ s_.2.2)) ∧ (Aside0 (s_.2.2 ≠ ab)) ∧ (Aside0 (ae ≠ s_.2.2)) ∧ (Aside0 (s_.2.2 ≠ ae)) ∧ BA w w') ?_ ?_
   ·clear z A HB; rintro ⟨Y, aa, V⟩ a4 ⟨hHeld, Q, O, z, A, G, W, F, E, J, I, L, HB⟩; (try dsimp only at hHeld Q O z A G W F E J I L HB); refine norm_ (a' := ?_) ?_ ?_; rotate_left
    ·simp only [putAll, Act.put, sA, sB, sC]
     rfl
    refine two_ (i := 3) (j := 4) (Ni := some 11) (Nj := some 12) (bl 12 1391) (bl 12 1399) rfl rfl rfl rfl (two_of HT_.out (by kernel_rfl)) (by decide) (by decide) (fun K hK => ?_) (fun K hK => ?_)
    ·refine Kd.R_append_rows_step Kd.string (w0 := w) w.heap.size (by rfl) (.tmp 8) (.tmp 10) 22 9 (.string ⟨#[]⟩) 16 rfl Try.underlying22 info9 rfl (by decide) (by omega) Y aD al _ _ _ (fun _ => True) (fun _ => False) rfl rfl ?aO ?aR (fun _ _ h => h) (fun _ h => h.elim) ?aF ?aB ?aS ?aL ?_
     (case aR => exact cO (Kd.C_below aY.out HB.out))
     (case aB => exact (bP3 HB B D F))
     (case aF => exact (fun _ _ => trivial))
     (case aO => exact (rP Q))
     (case aS => exact (below_size (bP3 HB B D F)))
     (case aL => have := bn.out; omega)
     intro ad bb ho hb hg hat; rw [← a3.out] at ho; replace z := kG z hg Q; replace A := kG A hg Q; replace O := aM (Kd.R_over' (rP O) (Kd.R_typed (rP Q)) (by decide) hg); replace G := kG G hg Q; replace HB := aM (hb); have U := aM (ho); clear Q; clear ho hb hg hat; refine hK.out _ _ (bD3 z) (fun hHeld => ?_); clear hK K; refine nm_ 11 ?_; exact norm_ pO (bg (Y, ad, aa, V) _ ⟨hHeld, rQ U, rQ O, kQ z, kQ A, kQ G, W, F, E, J, I, L, bT3 HB B D F⟩)
    ·refine lt_ Kd.bool 4 12 ([] : List Bool) [] (Reps.none _ _) ?_; intro Z bb ar hb
     replace ar := nW aI ar
     replace Q := rB Q hb; replace O := rB O hb; have P := rW ar (bP3 HB B D F); replace z := kB z hb; replace A := kB A hb; replace G := kB G hb; replace HB := hS3 HB B D F hb; clear hb ar; refine hK.out _ _ (bD3 z) (fun hHeld => ?_); clear hK K; refine nm_ 12 ?_; exact norm_ pO (aV (Y, Z, aa, V) _ ⟨hHeld, rQ Q, rQ P, rQ O, kQ z, kQ A, kQ G, W, F, E, J, I, L, bT3 HB B D F⟩)
   intro bE; refine join_ (σ := Value × Value × Nat) 5 (bl 12 1398) (fun s_ => [(12, s_.1), (16, s_.2.1), (4, .pointer (some ⟨s_.2.2, 0, none⟩))]) (fun s_ w' => (q_1 w') ∧ (RA Kd.bool 4 w' w s_.1 ax) ∧ (RA (Kd.int .i64) 3 w' w s_.2.1 aC) ∧ (q_2 w') ∧ (q_3 w') ∧ (Aside0 (w'.heap[s_.2.2]? = some (.cells #[.slice none 0 0, .slice none 0 0, .slice none 0 0, .slice none 0 0] 27 (0, 0)))) ∧ (Aside0 (w.heap.size ≤ s_.2.2)) ∧ (Aside0 (w.heap.size ≤ s_.2.2)) ∧ (Aside0 (ab ≠ s_.2.2)) ∧ (Aside0 (s_.2.2 ≠ ab)) ∧ (Aside0 (ae ≠ s_.2.2)) ∧ (Aside0 (s_.2.2 ≠ ae)) ∧ BA w w') ?_ ?_
   ·clear z A HB; rintro ⟨Z, aa, V⟩ a4 ⟨hHeld, P, O, z, A, G, W, F, E, J, I, L, HB⟩; (try dsimp only at hHeld P O z A G W F E J I L HB); refine norm_ (a' := ?_) ?_ ?_; rotate_left
    ·simp only [putAll, Act.put, sA, sB, sC]
     rfl
    refine one_ (i := 0) (N := some 8) (bl 12 1399) rfl rfl (one_of HT_.out (by kernel_rfl)) (by decide) (fun K hK => ?_); refine lt_ Kd.string 9 8 ([] : List ByteArray) [] (Reps.none _ _) ?_; intro Y bb ar hb
    replace ar := nW aZ ar
    replace P := rB P hb; replace O := rB O hb; have Q := rW ar (bP3 HB B D F); replace z := kB z hb; replace A := kB A hb; replace G := kB G hb; replace HB := hS3 HB B D F hb; clear hb ar; refine hK.out _ _ (bD3 z) (fun hHeld => ?_); clear hK K; refine nm_ 8 ?_; exact norm_ pO (aV (Y, Z, aa, V) _ ⟨hHeld, rQ Q, rQ P, rQ O, kQ z, kQ A, kQ G, W, F, E, J, I, L, bT3 HB B D F⟩)
   intro bF; refine join_ (σ := Value × Value) 6 (bl 12 111) (fun s_ => [(8, s_.1), (11, s_.2)]) (fun s_ w' => (q_1 w') ∧ (RA Kd.string 9 w' w s_.2 aq) ∧ (q_2 w') ∧ (q_3 w') ∧ BA w w') ?_ ?_
   ·clear z A HB; rintro ⟨Y, ad⟩ bd ⟨hHeld, U, z, A, HB⟩; (try dsimp only at hHeld U z A HB); refine norm_ (a' := ?_) ?_ ?_; rotate_left
    ·simp only [putAll, Act.put, sA, sB, sC]
     rfl
    refine three_ (i := 4) (j := 8) (k := 10) (Ni := some 12) (Nj := some 16) (Nk := some 4) (bl 12 127) (bl 12 367) (bl 12 1135) rfl rfl rfl rfl rfl rfl (three_of HT_.out (by kernel_rfl)) (by decide) (by decide) (by decide) (fun K hK => ?_) (fun K hK => ?_) (fun K hK => ?_)
    ·refine lt_ Kd.bool 4 12 ([] : List Bool) [] (Reps.none _ _) ?_; intro Z bc ai hb
     replace ai := nW aI ai
     replace U := rB U hb; have P := rW ai (bP2 HB B D); replace z := kB z hb; replace A := kB A hb; replace HB := hS2 HB B D hb; clear hb ai; refine hK.out _ _ (bD3 z) (fun hHeld => ?_); clear hK K; refine nm_ 12 ?_; exact norm_ pO (b5 (Y, ad, Z) _ ⟨hHeld, rQ U, rQ P, kQ z, kQ A, bT2 HB B D⟩)
    ·refine lt_ (Kd.int .i64) 3 16 ([0] : List Int) [.int .i64 0] (Reps.one (show Kd.M (Kd.int .i64) _ _ _ 0 [.int .i64 0] from rfl) (Reps.none _ _)) ?_; intro aa bc ai hb
     replace ai := nW aE ai
     replace U := rB U hb; have O := rW ai (bP2 HB B D); replace z := kB z hb; replace A := kB A hb; replace HB := hS2 HB B D hb; clear hb ai; refine hK.out _ _ (bD3 z) (fun hHeld => ?_); clear hK K; refine nm_ 16 ?_; exact norm_ pO (b6 (Y, ad, aa) _ ⟨hHeld, rQ U, rQ O, kQ z, kQ A, bT2 HB B D⟩)
    ·refine bs_ (cs := #[.slice none 0 0, .slice none 0 0, .slice none 0 0, .slice none 0 0]) (t := 27) ?_; intro V hg bc hbox hb; replace U := rB U hb; have G := aM (hbox); have W := gE hg (bP2 HB B D); have F := gE hg (bP2 HB B D); replace HB := hS2 HB B D hb; have E := nL hg z; have J := nG hg z; replace z := kB z hb; have I := nL hg A; have L := nG hg A; replace A := kB A hb; clear hb hbox hg; refine hK.out _ _ (bD3 z) (fun hHeld => ?_); clear hK K; refine nm_ 4 ?_; exact norm_ pO (b2 (Y, ad, V) _ ⟨hHeld, rQ U, kQ z, kQ A, kQ G, W, F, E, J, I, L, bT3 HB B D F⟩)
   intro c4; refine join_ (σ := Value × Value) 6 (bl 12 119) (fun s_ => [(8, s_.1), (12, s_.2)]) (fun s_ w' => (q_1 w') ∧ (RA Kd.string 9 w' w s_.1 aD) ∧ (RA Kd.bool 4 w' w s_.2 ax) ∧ (q_2 w') ∧ (q_3 w') ∧ BA w w') ?_ ?_
   ·clear z A HB; rintro ⟨Y, Z⟩ bc ⟨hHeld, Q, P, z, A, HB⟩; (try dsimp only at hHeld Q P z A HB); refine norm_ (a' := ?_) ?_ ?_; rotate_left
    ·simp only [putAll, Act.put, sA, sB, sC]
     rfl
    refine three_ (i := 3) (j := 8) (k := 10) (Ni := some 11) (Nj := some 16) (Nk := some 4) (bl 12 127) (bl 12 375) (bl 12 1143) rfl rfl rfl rfl rfl rfl (three_of HT_.out (by kernel_rfl)) (by decide) (by decide) (by decide) (fun K hK => ?_) (fun K hK => ?_) (fun K hK => ?_)
    ·refine Kd.R_append_rows_step Kd.string (w0 := w) w.heap.size (by rfl) (.tmp 8) (.tmp 10) 22 9 (.string ⟨#[]⟩) 16 rfl Try.underlying22 info9 rfl (by decide) (by omega) Y aD al _ _ _ (fun _ => True) (fun _ => False) rfl rfl ?aO ?aR (fun _ _ h => h) (fun _ h => h.elim) ?aF ?aB ?aS ?aL ?_
     (case aR => exact cO (Kd.C_below aY.out HB.out))
     (case aB => exact (bP2 HB B D))
     (case aF => exact (fun _ _ => trivial))
     (case aO => exact (rP Q))
     (case aS => exact (below_size (bP2 HB B D)))
     (case aL => have := bn.out; omega)
     intro ad a4 ho hb hg hat; rw [← a3.out] at ho; replace z := kG z hg Q; replace A := kG A hg Q; replace P := aM (Kd.R_over' (rP P) (Kd.R_typed (rP Q)) (by decide) hg); replace HB := aM (hb); have U := aM (ho); clear Q; clear ho hb hg hat; refine hK.out _ _ (bD3 z) (fun hHeld => ?_); clear hK K; refine nm_ 11 ?_; exact norm_ pO (b5 (Y, ad, Z) _ ⟨hHeld, rQ U, rQ P, kQ z, kQ A, bT2 HB B D⟩)
    ·refine lt_ (Kd.int .i64) 3 16 ([0] : List Int) [.int .i64 0] (Reps.one (show Kd.M (Kd.int .i64) _ _ _ 0 [.int .i64 0] from rfl) (Reps.none _ _)) ?_; intro aa a4 au hb
     replace au := nW aE au
     replace Q := rB Q hb; replace P := rB P hb; have O := rW au (bP2 HB B D); replace z := kB z hb; replace A := kB A hb; replace HB := hS2 HB B D hb; clear hb au; refine hK.out _ _ (bD3 z) (fun hHeld => ?_); clear hK K; refine nm_ 16 ?_; exact norm_ pO (bL (Y, Z, aa) _ ⟨hHeld, rQ Q, rQ P, rQ O, kQ z, kQ A, bT2 HB B D⟩)
    ·refine bs_ (cs := #[.slice none 0 0, .slice none 0 0, .slice none 0 0, .slice none 0 0]) (t := 27) ?_; intro V hg a4 hbox hb; replace Q := rB Q hb; replace P := rB P hb; have G := aM (hbox); have W := gE hg (bP2 HB B D); have F := gE hg (bP2 HB B D); replace HB := hS2 HB B D hb; have E := nL hg z; have J := nG hg z; replace z := kB z hb; have I := nL hg A; have L := nG hg A; replace A := kB A hb; clear hb hbox hg; refine hK.out _ _ (bD3 z) (fun hHeld => ?_); clear hK K; refine nm_ 4 ?_; exact norm_ pO (bD (Y, Z, V) _ ⟨hHeld, rQ Q, rQ P, kQ z, kQ A, kQ G, W, F, E, J, I, L, bT3 HB B D F⟩)
   intro cC; refine join_ (σ := Value × Value) 6 (bl 12 359) (fun s_ => [(8, s_.1), (16, s_.2)]) (fun s_ w' => (q_1 w') ∧ (RA Kd.string 9 w' w s_.1 aD) ∧ (RA (Kd.int .i64) 3 w' w s_.2 aC) ∧ (q_2 w') ∧ (q_3 w') ∧ BA w w') ?_ ?_
   ·clear z A HB; rintro ⟨Y, aa⟩ bc ⟨hHeld, Q, O, z, A, HB⟩; (try dsimp only at hHeld Q O z A HB); refine norm_ (a' := ?_) ?_ ?_; rotate_left
    ·simp only [putAll, Act.put, sA, sB, sC]
     rfl
    refine three_ (i := 3) (j := 4) (k := 10) (Ni := some 11) (Nj := some 12) (Nk := some 4) (bl 12 367) (bl 12 375) (bl 12 1383) rfl rfl rfl rfl rfl rfl (three_of HT_.out (by kernel_rfl)) (by decide) (by decide) (by decide) (fun K hK => ?_) (fun K hK => ?_) (fun K hK => ?_)
    ·refine Kd.R_append_rows_step Kd.string (w0 := w) w.heap.size (by rfl) (.tmp 8) (.tmp 10) 22 9 (.string ⟨#[]⟩) 16 rfl Try.underlying22 info9 rfl (by decide) (by omega) Y aD al _ _ _ (fun _ => True) (fun _ => False) rfl rfl ?aO ?aR (fun _ _ h => h) (fun _ h => h.elim) ?aF ?aB ?aS ?aL ?_
     (case aR => exact cO (Kd.C_below aY.out HB.out))
     (case aB => exact (bP2 HB B D))
     (case aF => exact (fun _ _ => trivial))
     (case aO => exact (rP Q))
     (case aS => exact (below_size (bP2 HB B D)))
     (case aL => have := bn.out; omega)
     intro ad a4 ho hb hg hat; rw [← a3.out] at ho; replace z := kG z hg Q; replace A := kG A hg Q; replace O := aM (Kd.R_over' (rP O) (Kd.R_typed (rP Q)) (by decide) hg); replace HB := aM (hb); have U := aM (ho); clear Q; clear ho hb hg hat; refine hK.out _ _ (bD3 z) (fun hHeld => ?_); clear hK K; refine nm_ 11 ?_; exact norm_ pO (b6 (Y, ad, aa) _ ⟨hHeld, rQ U, rQ O, kQ z, kQ A, bT2 HB B D⟩)
    ·refine lt_ Kd.bool 4 12 ([] : List Bool) [] (Reps.none _ _) ?_; intro Z a4 au hb
     replace au := nW aI au
     replace Q := rB Q hb; replace O := rB O hb; have P := rW au (bP2 HB B D); replace z := kB z hb; replace A := kB A hb; replace HB := hS2 HB B D hb; clear hb au; refine hK.out _ _ (bD3 z) (fun hHeld => ?_); clear hK K; refine nm_ 12 ?_; exact norm_ pO (bL (Y, Z, aa) _ ⟨hHeld, rQ Q, rQ P, rQ O, kQ z, kQ A, bT2 HB B D⟩)
    ·refine bs_ (cs := #[.slice none 0 0, .slice none 0 0, .slice none 0 0, .slice none 0 0]) (t := 27) ?_; intro V hg a4 hbox hb; replace Q := rB Q hb; replace O := rB O hb; have G := aM (hbox); have W := gE hg (bP2 HB B D); have F := gE hg (bP2 HB B D); replace HB := hS2 HB B D hb; have E := nL hg z; have J := nG hg z; replace z := kB z hb; have I := nL hg A; have L := nG hg A; replace A := kB A hb; clear hb hbox hg; refine hK.out _ _ (bD3 z) (fun hHeld => ?_); clear hK K; refine nm_ 4 ?_; exact norm_ pO (bE (Y, aa, V) _ ⟨hHeld, rQ Q, rQ O, kQ z, kQ A, kQ G, W, F, E, J, I, L, bT3 HB B D F⟩)
   intro cD; refine join_ (σ := Value × Nat) 6 (bl 12 1127) (fun s_ => [(8, s_.1), (4, .pointer (some ⟨s_.2, 0, none⟩))]) (fun s_ w' => (q_1 w') ∧ (RA Kd.string 9 w' w s_.1 aD) ∧ (q_2 w') ∧ (q_3 w') ∧ (Aside0 (w'.heap[s_.2]? = some (.cells #[.slice none 0 0, .slice none 0 0, .slice none 0 0, .slice none 0 0] 27 (0, 0)))) ∧ (Aside0 (w.heap.size ≤ s_.2)) ∧ (Aside0 (w.heap.size ≤ s_.2)) ∧ (Aside0 (ab ≠ s_.2)) ∧ (Aside0 (s_.2 ≠ ab)) ∧ (Aside0 (ae ≠ s_.2)) ∧ (Aside0 (s_.2 ≠ ae)) ∧ BA w w') ?_ ?_
   ·clear z A HB; rintro ⟨Y, V⟩ bd ⟨hHeld, Q, z, A, G, W, F, E, J, I, L, HB⟩; (try dsimp only at hHeld Q z A G W F E J I L HB); refine norm_ (a' := ?_) ?_ ?_; rotate_left
    ·simp only [putAll, Act.put, sA, sB, sC]
     rfl
    refine three_ (i := 3) (j := 4) (k := 8) (Ni := some 11) (Nj := some 12) (Nk := some 16) (bl 12 1135) (bl 12 1143) (bl 12 1383) rfl rfl rfl rfl rfl rfl (three_of HT_.out (by kernel_rfl)) (by decide) (by decide) (by decide) (fun K hK => ?_) (fun K hK => ?_) (fun K hK => ?_)
    ·refine Kd.R_append_rows_step Kd.string (w0 := w) w.heap.size (by rfl) (.tmp 8) (.tmp 10) 22 9 (.string ⟨#[]⟩) 16 rfl Try.underlying22 info9 rfl (by decide) (by omega) Y aD al _ _ _ (fun _ => True) (fun _ => False) rfl rfl ?aO ?aR (fun _ _ h => h) (fun _ h => h.elim) ?aF ?aB ?aS ?aL ?_
     (case aR => exact cO (Kd.C_below aY.out HB.out))
     (case aB => exact (bP3 HB B D F))
     (case aF => exact (fun _ _ => trivial))
     (case aO => exact (rP Q))
     (case aS => exact (below_size (bP3 HB B D F)))
     (case aL => have := bn.out; omega)
     intro ad bc ho hb hg hat; rw [← a3.out] at ho; replace z := kG z hg Q; replace A := kG A hg Q; replace G := kG G hg Q; replace HB := aM (hb); have U := aM (ho); clear Q; clear ho hb hg hat; refine hK.out _ _ (bD3 z) (fun hHeld => ?_); clear hK K; refine nm_ 11 ?_; exact norm_ pO (b2 (Y, ad, V) _ ⟨hHeld, rQ U, kQ z, kQ A, kQ G, W, F, E, J, I, L, bT3 HB B D F⟩)
    ·refine lt_ Kd.bool 4 12 ([] : List Bool) [] (Reps.none _ _) ?_; intro Z bc ai hb
     replace ai := nW aI ai
     replace Q := rB Q hb; have P := rW ai (bP3 HB B D F); replace z := kB z hb; replace A := kB A hb; replace G := kB G hb; replace HB := hS3 HB B D F hb; clear hb ai; refine hK.out _ _ (bD3 z) (fun hHeld => ?_); clear hK K; refine nm_ 12 ?_; exact norm_ pO (bD (Y, Z, V) _ ⟨hHeld, rQ Q, rQ P, kQ z, kQ A, kQ G, W, F, E, J, I, L, bT3 HB B D F⟩)
    ·refine lt_ (Kd.int .i64) 3 16 ([0] : List Int) [.int .i64 0] (Reps.one (show Kd.M (Kd.int .i64) _ _ _ 0 [.int .i64 0] from rfl) (Reps.none _ _)) ?_; intro aa bc ai hb
     replace ai := nW aE ai
     replace Q := rB Q hb; have O := rW ai (bP3 HB B D F); replace z := kB z hb; replace A := kB A hb; replace G := kB G hb; replace HB := hS3 HB B D F hb; clear hb ai; refine hK.out _ _ (bD3 z) (fun hHeld => ?_); clear hK K; refine nm_ 16 ?_; exact norm_ pO (bE (Y, aa, V) _ ⟨hHeld, rQ Q, rQ O, kQ z, kQ A, kQ G, W, F, E, J, I, L, bT3 HB B D F⟩)
   intro ce; refine join_ (σ := Value × Value) 6 (bl 12 374) (fun s_ => [(12, s_.1), (16, s_.2)]) (fun s_ w' => (q_1 w') ∧ (RA Kd.bool 4 w' w s_.1 ax) ∧ (RA (Kd.int .i64) 3 w' w s_.2 aC) ∧ (q_2 w') ∧ (q_3 w') ∧ BA w w') ?_ ?_
   ·clear z A HB; rintro ⟨Z, aa⟩ bc ⟨hHeld, P, O, z, A, HB⟩; (try dsimp only at hHeld P O z A HB); refine norm_ (a' := ?_) ?_ ?_; rotate_left
    ·simp only [putAll, Act.put, sA, sB, sC]
     rfl
    refine two_ (i := 0) (j := 10) (Ni := some 8) (Nj := some 4) (bl 12 375) (bl 12 1398) rfl rfl rfl rfl (two_of HT_.out (by kernel_rfl)) (by decide) (by decide) (fun K hK => ?_) (fun K hK => ?_)
    ·refine lt_ Kd.string 9 8 ([] : List ByteArray) [] (Reps.none _ _) ?_; intro Y a4 au hb
     replace au := nW aZ au
     replace P := rB P hb; replace O := rB O hb; have Q := rW au (bP2 HB B D); replace z := kB z hb; replace A := kB A hb; replace HB := hS2 HB B D hb; clear hb au; refine hK.out _ _ (bD3 z) (fun hHeld => ?_); clear hK K; refine nm_ 8 ?_; exact norm_ pO (bL (Y, Z, aa) _ ⟨hHeld, rQ Q, rQ P, rQ O, kQ z, kQ A, bT2 HB B D⟩)
    ·refine bs_ (cs := #[.slice none 0 0, .slice none 0 0, .slice none 0 0, .slice none 0 0]) (t := 27) ?_; intro V hg a4 hbox hb; replace P := rB P hb; replace O := rB O hb; have G := aM (hbox); have W := gE hg (bP2 HB B D); have F := gE hg (bP2 HB B D); replace HB := hS2 HB B D hb; have E := nL hg z; have J := nG hg z; replace z := kB z hb; have I := nL hg A; have L := nG hg A; replace A := kB A hb; clear hb hbox hg; refine hK.out _ _ (bD3 z) (fun hHeld => ?_); clear hK K; refine nm_ 4 ?_; exact norm_ pO (bF (Z, aa, V) _ ⟨hHeld, rQ P, rQ O, kQ z, kQ A, kQ G, W, F, E, J, I, L, bT3 HB B D F⟩)
   intro cE; refine join_ (σ := Value × Nat) 6 (bl 12 1142) (fun s_ => [(12, s_.1), (4, .pointer (some ⟨s_.2, 0, none⟩))]) (fun s_ w' => (q_1 w') ∧ (RA Kd.bool 4 w' w s_.1 ax) ∧ (q_2 w') ∧ (q_3 w') ∧ (Aside0 (w'.heap[s_.2]? = some (.cells #[.slice none 0 0, .slice none 0 0, .slice none 0 0, .slice none 0 0] 27 (0, 0)))) ∧ (Aside0 (w.heap.size ≤ s_.2)) ∧ (Aside0 (w.heap.size ≤ s_.2)) ∧ (Aside0 (ab ≠ s_.2)) ∧ (Aside0 (s_.2 ≠ ab)) ∧ (Aside0 (ae ≠ s_.2)) ∧ (Aside0 (s_.2 ≠ ae)) ∧ BA w w') ?_ ?_
   ·clear z A HB; rintro ⟨Z, V⟩ bd ⟨hHeld, P, z, A, G, W, F, E, J, I, L, HB⟩; (try dsimp only at hHeld P z A G W F E J I L HB); refine norm_ (a' := ?_) ?_ ?_; rotate_left
    ·simp only [putAll, Act.put, sA, sB, sC]
     rfl
    refine two_ (i := 0) (j := 8) (Ni := some 8) (Nj := some 16) (bl 12 1143) (bl 12 1398) rfl rfl rfl rfl (two_of HT_.out (by kernel_rfl)) (by decide) (by decide) (fun K hK => ?_) (fun K hK => ?_)
    ·refine lt_ Kd.string 9 8 ([] : List ByteArray) [] (Reps.none _ _) ?_; intro Y bc ai hb
     replace ai := nW aZ ai
     replace P := rB P hb; have Q := rW ai (bP3 HB B D F); replace z := kB z hb; replace A := kB A hb; replace G := kB G hb; replace HB := hS3 HB B D F hb; clear hb ai; refine hK.out _ _ (bD3 z) (fun hHeld => ?_); clear hK K; refine nm_ 8 ?_; exact norm_ pO (bD (Y, Z, V) _ ⟨hHeld, rQ Q, rQ P, kQ z, kQ A, kQ G, W, F, E, J, I, L, bT3 HB B D F⟩)
    ·refine lt_ (Kd.int .i64) 3 16 ([0] : List Int) [.int .i64 0] (Reps.one (show Kd.M (Kd.int .i64) _ _ _ 0 [.int .i64 0] from rfl) (Reps.none _ _)) ?_; intro aa bc ai hb
     replace ai := nW aE ai
     replace P := rB P hb; have O := rW ai (bP3 HB B D F); replace z := kB z hb; replace A := kB A hb; replace G := kB G hb; replace HB := hS3 HB B D F hb; clear hb ai; refine hK.out _ _ (bD3 z) (fun hHeld => ?_); clear hK K; refine nm_ 16 ?_; exact norm_ pO (bF (Z, aa, V) _ ⟨hHeld, rQ P, rQ O, kQ z, kQ A, kQ G, W, F, E, J, I, L, bT3 HB B D F⟩)
   intro cf; refine join_ (σ := Value × Nat) 6 (bl 12 1382) (fun s_ => [(16, s_.1), (4, .pointer (some ⟨s_.2, 0, none⟩))]) (fun s_ w' => (q_1 w') ∧ (RA (Kd.int .i64) 3 w' w s_.1 aC) ∧ (q_2 w') ∧ (q_3 w') ∧ (Aside0 (w'.heap[s_.2]? = some (.cells #[.slice none 0 0, .slice none 0 0, .slice none 0 0, .slice none 0 0] 27 (0, 0)))) ∧ (Aside0 (w.heap.size ≤ s_.2)) ∧ (Aside0 (w.heap.size ≤ s_.2)) ∧ (Aside0 (ab ≠ s_.2)) ∧ (Aside0 (s_.2 ≠ ab)) ∧ (Aside0 (ae ≠ s_.2)) ∧ (Aside0 (s_.2 ≠ ae)) ∧ BA w w') ?_ ?_
   ·clear z A HB; rintro ⟨aa, V⟩ bd ⟨hHeld, O, z, A, G, W, F, E, J, I, L, HB⟩; (try dsimp only at hHeld O z A G W F E J I L HB); refine norm_ (a' := ?_) ?_ ?_; rotate_left
    ·simp only [putAll, Act.put, sA, sB, sC]
     rfl
    refine two_ (i := 0) (j := 4) (Ni := some 8) (Nj := some 12) (bl 12 1383) (bl 12 1398) rfl rfl rfl rfl (two_of HT_.out (by kernel_rfl)) (by decide) (by decide) (fun K hK => ?_) (fun K hK => ?_)
    ·refine lt_ Kd.string 9 8 ([] : List ByteArray) [] (Reps.none _ _) ?_; intro Y bc ai hb
     replace ai := nW aZ ai
     replace O := rB O hb; have Q := rW ai (bP3 HB B D F); replace z := kB z hb; replace A := kB A hb; replace G := kB G hb; replace HB := hS3 HB B D F hb; clear hb ai; refine hK.out _ _ (bD3 z) (fun hHeld => ?_); clear hK K; refine nm_ 8 ?_; exact norm_ pO (bE (Y, aa, V) _ ⟨hHeld, rQ Q, rQ O, kQ z, kQ A, kQ G, W, F, E, J, I, L, bT3 HB B D F⟩)
    ·refine lt_ Kd.bool 4 12 ([] : List Bool) [] (Reps.none _ _) ?_; intro Z bc ai hb
     replace ai := nW aI ai
     replace O := rB O hb; have P := rW ai (bP3 HB B D F); replace z := kB z hb; replace A := kB A hb; replace G := kB G hb; replace HB := hS3 HB B D F hb; clear hb ai; refine hK.out _ _ (bD3 z) (fun hHeld => ?_); clear hK K; refine nm_ 12 ?_; exact norm_ pO (bF (Z, aa, V) _ ⟨hHeld, rQ P, rQ O, kQ z, kQ A, kQ G, W, F, E, J, I, L, bT3 HB B D F⟩)
   intro cg; refine join_ (σ := Value) 7 (bl 12 103) (fun s_ => [(8, s_)]) (fun s_ w' => (q_1 w') ∧ (RA Kd.string 9 w' w s_ aD) ∧ (q_2 w') ∧ (q_3 w') ∧ BA w w') ?_ ?_
   ·clear z A HB; rintro Y w9 ⟨hHeld, Q, z, A, HB⟩; (try dsimp only at hHeld Q z A HB); refine norm_ (a' := ?_) ?_ ?_; rotate_left
    ·simp only [putAll, Act.put, sA, sB, sC]
     rfl
    refine four_ (i := 3) (j := 4) (k := 8) (m := 10) (Ni := some 11) (Nj := some 12) (Nk := some 16) (Nm := some 4) (bl 12 111) (bl 12 119) (bl 12 359) (bl 12 1127) rfl rfl rfl rfl rfl rfl rfl rfl (four_of HT_.out (by kernel_rfl)) (by decide) (by decide) (by decide) (by decide) (fun K hK => ?_) (fun K hK => ?_) (fun K hK => ?_) (fun K hK => ?_)
    ·refine Kd.R_append_rows_step Kd.string (w0 := w) w.heap.size (by rfl) (.tmp 8) (.tmp 10) 22 9 (.string ⟨#[]⟩) 16 rfl Try.underlying22 info9 rfl (by decide) (by omega) Y aD al _ _ _ (fun _ => True) (fun _ => False) rfl rfl ?aO ?aR (fun _ _ h => h) (fun _ h => h.elim) ?aF ?aB ?aS ?aL ?_
     (case aR => exact cO (Kd.C_below aY.out HB.out))
     (case aB => exact (bP2 HB B D))
     (case aF => exact (fun _ _ => trivial))
     (case aO => exact (rP Q))
     (case aS => exact (below_size (bP2 HB B D)))
     (case aL => have := bn.out; omega)
     intro ad bd ho hb hg hat; rw [← a3.out] at ho; replace z := kG z hg Q; replace A := kG A hg Q; replace HB := aM (hb); have U := aM (ho); clear Q; clear ho hb hg hat; refine hK.out _ _ (bD3 z) (fun hHeld => ?_); clear hK K; refine nm_ 11 ?_; exact norm_ pO (c4 (Y, ad) _ ⟨hHeld, rQ U, kQ z, kQ A, bT2 HB B D⟩)
    ·refine lt_ Kd.bool 4 12 ([] : List Bool) [] (Reps.none _ _) ?_; intro Z bd ak hb
     replace ak := nW aI ak
     replace Q := rB Q hb; have P := rW ak (bP2 HB B D); replace z := kB z hb; replace A := kB A hb; replace HB := hS2 HB B D hb; clear hb ak; refine hK.out _ _ (bD3 z) (fun hHeld => ?_); clear hK K; refine nm_ 12 ?_; exact norm_ pO (cC (Y, Z) _ ⟨hHeld, rQ Q, rQ P, kQ z, kQ A, bT2 HB B D⟩)
    ·refine lt_ (Kd.int .i64) 3 16 ([0] : List Int) [.int .i64 0] (Reps.one (show Kd.M (Kd.int .i64) _ _ _ 0 [.int .i64 0] from rfl) (Reps.none _ _)) ?_; intro aa bd ak hb
     replace ak := nW aE ak
     replace Q := rB Q hb; have O := rW ak (bP2 HB B D); replace z := kB z hb; replace A := kB A hb; replace HB := hS2 HB B D hb; clear hb ak; refine hK.out _ _ (bD3 z) (fun hHeld => ?_); clear hK K; refine nm_ 16 ?_; exact norm_ pO (cD (Y, aa) _ ⟨hHeld, rQ Q, rQ O, kQ z, kQ A, bT2 HB B D⟩)
    ·refine bs_ (cs := #[.slice none 0 0, .slice none 0 0, .slice none 0 0, .slice none 0 0]) (t := 27) ?_; intro V hg bd hbox hb; replace Q := rB Q hb; have G := aM (hbox); have W := gE hg (bP2 HB B D); have F := gE hg (bP2 HB B D); replace HB := hS2 HB B D hb; have E := nL hg z; have J := nG hg z; replace z := kB z hb; have I := nL hg A; have L := nG hg A; replace A := kB A hb; clear hb hbox hg; refine hK.out _ _ (bD3 z) (fun hHeld => ?_); clear hK K; refine nm_ 4 ?_; exact norm_ pO (ce (Y, V) _ ⟨hHeld, rQ Q, kQ z, kQ A, kQ G, W, F, E, J, I, L, bT3 HB B D F⟩)
   intro ez; refine join_ (σ := Value) 7 (bl 12 118) (fun s_ => [(12, s_)]) (fun s_ w' => (q_1 w') ∧ (RA Kd.bool 4 w' w s_ ax) ∧ (q_2 w') ∧ (q_3 w') ∧ BA w w') ?_ ?_
   ·clear z A HB; rintro Z w9 ⟨hHeld, P, z, A, HB⟩; (try dsimp only at hHeld P z A HB); refine norm_ (a' := ?_) ?_ ?_; rotate_left
    ·simp only [putAll, Act.put, sA, sB, sC]
     rfl
    refine three_ (i := 0) (j := 8) (k := 10) (Ni := some 8) (Nj := some 16) (Nk := some 4) (bl 12 119) (bl 12 374) (bl 12 1142) rfl rfl rfl rfl rfl rfl (three_of HT_.out (by kernel_rfl)) (by decide) (by decide) (by decide) (fun K hK => ?_) (fun K hK => ?_) (fun K hK => ?_)
    ·refine lt_ Kd.string 9 8 ([] : List ByteArray) [] (Reps.none _ _) ?_; intro Y bd ak hb
     replace ak := nW aZ ak
     replace P := rB P hb; have Q := rW ak (bP2 HB B D); replace z := kB z hb; replace A := kB A hb; replace HB := hS2 HB B D hb; clear hb ak; refine hK.out _ _ (bD3 z) (fun hHeld => ?_); clear hK K; refine nm_ 8 ?_; exact norm_ pO (cC (Y, Z) _ ⟨hHeld, rQ Q, rQ P, kQ z, kQ A, bT2 HB B D⟩)
    ·refine lt_ (Kd.int .i64) 3 16 ([0] : List Int) [.int .i64 0] (Reps.one (show Kd.M (Kd.int .i64) _ _ _ 0 [.int .i64 0] from rfl) (Reps.none _ _)) ?_; intro aa bd ak hb
     replace ak := nW aE ak
     replace P := rB P hb; have O := rW ak (bP2 HB B D); replace z := kB z hb; replace A := kB A hb; replace HB := hS2 HB B D hb; clear hb ak; refine hK.out _ _ (bD3 z) (fun hHeld => ?_); clear hK K; refine nm_ 16 ?_; exact norm_ pO (cE (Z, aa) _ ⟨hHeld, rQ P, rQ O, kQ z, kQ A, bT2 HB B D⟩)
    ·refine bs_ (cs := #[.slice none 0 0, .slice none 0 0, .slice none 0 0, .slice none 0 0]) (t := 27) ?_; intro V hg bd hbox hb; replace P := rB P hb; have G := aM (hbox); have W := gE hg (bP2 HB B D); have F := gE hg (bP2 HB B D); replace HB := hS2 HB B D hb; have E := nL hg z; have J := nG hg z; replace z := kB z hb; have I := nL hg A; have L := nG hg A; replace A := kB A hb; clear hb hbox hg; refine hK.out _ _ (bD3 z) (fun hHeld => ?_); clear hK K; refine nm_ 4 ?_; exact norm_ pO (cf (Z, V) _ ⟨hHeld, rQ P, kQ z, kQ A, kQ G, W, F, E, J, I, L, bT3 HB B D F⟩)
   intro eA; refine join_ (σ := Value) 7 (bl 12 358) (fun s_ => [(16, s_)]) (fun s_ w' => (q_1 w') ∧ (RA (Kd.int .i64) 3 w' w s_ aC) ∧ (q_2 w') ∧ (q_3 w') ∧ BA w w') ?_ ?_
   ·clear z A HB; rintro aa w9 ⟨hHeld, O, z, A, HB⟩; (try dsimp only at hHeld O z A HB); refine norm_ (a' := ?_) ?_ ?_; rotate_left
    ·simp only [putAll, Act.put, sA, sB, sC]
     rfl
    refine three_ (i := 0) (j := 4) (k := 10) (Ni := some 8) (Nj := some 12) (Nk := some 4) (bl 12 359) (bl 12 374) (bl 12 1382) rfl rfl rfl rfl rfl rfl (three_of HT_.out (by kernel_rfl)) (by decide) (by decide) (by decide) (fun K hK => ?_) (fun K hK => ?_) (fun K hK => ?_)
    ·refine lt_ Kd.string 9 8 ([] : List ByteArray) [] (Reps.none _ _) ?_; intro Y bd ak hb
     replace ak := nW aZ ak
     replace O := rB O hb; have Q := rW ak (bP2 HB B D); replace z := kB z hb; replace A := kB A hb; replace HB := hS2 HB B D hb; clear hb ak; refine hK.out _ _ (bD3 z) (fun hHeld => ?_); clear hK K; refine nm_ 8 ?_; exact norm_ pO (cD (Y, aa) _ ⟨hHeld, rQ Q, rQ O, kQ z, kQ A, bT2 HB B D⟩)
    ·refine lt_ Kd.bool 4 12 ([] : List Bool) [] (Reps.none _ _) ?_; intro Z bd ak hb
     replace ak := nW aI ak
     replace O := rB O hb; have P := rW ak (bP2 HB B D); replace z := kB z hb; replace A := kB A hb; replace HB := hS2 HB B D hb; clear hb ak; refine hK.out _ _ (bD3 z) (fun hHeld => ?_); clear hK K; refine nm_ 12 ?_; exact norm_ pO (cE (Z, aa) _ ⟨hHeld, rQ P, rQ O, kQ z, kQ A, bT2 HB B D⟩)
    ·refine bs_ (cs := #[.slice none 0 0, .slice none 0 0, .slice none 0 0, .slice none 0 0]) (t := 27) ?_; intro V hg bd hbox hb; replace O := rB O hb; have G := aM (hbox); have W := gE hg (bP2 HB B D); have F := gE hg (bP2 HB B D); replace HB := hS2 HB B D hb; have E := nL hg z; have J := nG hg z; replace z := kB z hb; have I := nL hg A; have L := nG hg A; replace A := kB A hb; clear hb hbox hg; refine hK.out _ _ (bD3 z) (fun hHeld => ?_); clear hK K; refine nm_ 4 ?_; exact norm_ pO (cg (aa, V) _ ⟨hHeld, rQ O, kQ z, kQ A, kQ G, W, F, E, J, I, L, bT3 HB B D F⟩)
   intro eB; refine join_ (σ := Nat) 7 (bl 12 1126) (fun s_ => [(4, .pointer (some ⟨s_, 0, none⟩))]) (fun s_ w' => (q_1 w') ∧ (q_2 w') ∧ (q_3 w') ∧ (Aside0 (w'.heap[s_]? = some (.cells #[.slice none 0 0, .slice none 0 0, .slice none 0 0, .slice none 0 0] 27 (0, 0)))) ∧ (Aside0 (w.heap.size ≤ s_)) ∧ (Aside0 (w.heap.size ≤ s_)) ∧ (Aside0 (ab ≠ s_)) ∧ (Aside0 (s_ ≠ ab)) ∧ (Aside0 (ae ≠ s_)) ∧ (Aside0 (s_ ≠ ae)) ∧ BA w w') ?_ ?_
   ·clear z A HB; rintro V w8 ⟨hHeld, z, A, G, W, F, E, J, I, L, HB⟩; (try dsimp only at hHeld z A G W F E J I L HB); refine norm_ (a' := ?_) ?_ ?_; rotate_left
    ·simp only [putAll, Act.put, sA, sB, sC]
     rfl
    refine three_ (i := 0) (j := 4) (k := 8) (Ni := some 8) (Nj := some 12) (Nk := some 16) (bl 12 1127) (bl 12 1142) (bl 12 1382) rfl rfl rfl rfl rfl rfl (three_of HT_.out (by kernel_rfl)) (by decide) (by decide) (by decide) (fun K hK => ?_) (fun K hK => ?_) (fun K hK => ?_)
    ·refine lt_ Kd.string 9 8 ([] : List ByteArray) [] (Reps.none _ _) ?_; intro Y w9 aN hb
     replace aN := nW aZ aN
     have Q := rW aN (bP3 HB B D F); replace z := kB z hb; replace A := kB A hb; replace G := kB G hb; replace HB := hS3 HB B D F hb; clear hb aN; refine hK.out _ _ (bD3 z) (fun hHeld => ?_); clear hK K; refine nm_ 8 ?_; exact norm_ pO (ce (Y, V) _ ⟨hHeld, rQ Q, kQ z, kQ A, kQ G, W, F, E, J, I, L, bT3 HB B D F⟩)
    ·refine lt_ Kd.bool 4 12 ([] : List Bool) [] (Reps.none _ _) ?_; intro Z w9 aN hb
     replace aN := nW aI aN
     have P := rW aN (bP3 HB B D F); replace z := kB z hb; replace A := kB A hb; replace G := kB G hb; replace HB := hS3 HB B D F hb; clear hb aN; refine hK.out _ _ (bD3 z) (fun hHeld => ?_); clear hK K; refine nm_ 12 ?_; exact norm_ pO (cf (Z, V) _ ⟨hHeld, rQ P, kQ z, kQ A, kQ G, W, F, E, J, I, L, bT3 HB B D F⟩)
    ·refine lt_ (Kd.int .i64) 3 16 ([0] : List Int) [.int .i64 0] (Reps.one (show Kd.M (Kd.int .i64) _ _ _ 0 [.int .i64 0] from rfl) (Reps.none _ _)) ?_; intro aa w9 aN hb
     replace aN := nW aE aN
     have O := rW aN (bP3 HB B D F); replace z := kB z hb; replace A := kB A hb; replace G := kB G hb; replace HB := hS3 HB B D F hb; clear hb aN; refine hK.out _ _ (bD3 z) (fun hHeld => ?_); clear hK K; refine nm_ 16 ?_; exact norm_ pO (cg (aa, V) _ ⟨hHeld, rQ O, kQ z, kQ A, kQ G, W, F, E, J, I, L, bT3 HB B D F⟩)
   intro dq; refine four_ (i := 0) (j := 4) (k := 8) (m := 10) (Ni := some 8) (Nj := some 12) (Nk := some 16) (Nm := some 4) (bl 12 103) (bl 12 118) (bl 12 358) (bl 12 1126) rfl rfl rfl rfl rfl rfl rfl rfl (four_of HT_.out (by kernel_rfl)) (by decide) (by decide) (by decide) (by decide) (fun K hK => ?_) (fun K hK => ?_) (fun K hK => ?_) (fun K hK => ?_)
   ·refine lt_ Kd.string 9 8 ([] : List ByteArray) [] (Reps.none _ _) ?_; intro Y w7 a5 hb
    replace a5 := nW aZ a5
    have Q := rW a5 (bP2 HB B D); replace z := kB z hb; replace A := kB A hb; replace HB := hS2 HB B D hb; clear hb a5; refine hK.out _ _ (bD3 z) (fun hHeld => ?_); clear hK K; refine nm_ 8 ?_; exact norm_ pO (ez (Y) _ ⟨hHeld, rQ Q, kQ z, kQ A, bT2 HB B D⟩)
   ·refine lt_ Kd.bool 4 12 ([] : List Bool) [] (Reps.none _ _) ?_; intro Z w7 a5 hb
    replace a5 := nW aI a5
    have P := rW a5 (bP2 HB B D); replace z := kB z hb; replace A := kB A hb; replace HB := hS2 HB B D hb; clear hb a5; refine hK.out _ _ (bD3 z) (fun hHeld => ?_); clear hK K; refine nm_ 12 ?_; exact norm_ pO (eA (Z) _ ⟨hHeld, rQ P, kQ z, kQ A, bT2 HB B D⟩)
   ·refine lt_ (Kd.int .i64) 3 16 ([0] : List Int) [.int .i64 0] (Reps.one (show Kd.M (Kd.int .i64) _ _ _ 0 [.int .i64 0] from rfl) (Reps.none _ _)) ?_; intro aa w7 a5 hb
    replace a5 := nW aE a5
    have O := rW a5 (bP2 HB B D); replace z := kB z hb; replace A := kB A hb; replace HB := hS2 HB B D hb; clear hb a5; refine hK.out _ _ (bD3 z) (fun hHeld => ?_); clear hK K; refine nm_ 16 ?_; exact norm_ pO (eB (aa) _ ⟨hHeld, rQ O, kQ z, kQ A, bT2 HB B D⟩)
   ·refine bs_ (cs := #[.slice none 0 0, .slice none 0 0, .slice none 0 0, .slice none 0 0]) (t := 27) ?_; intro V hg w7 hbox hb; have G := aM (hbox); have W := gE hg (bP2 HB B D); have F := gE hg (bP2 HB B D); replace HB := hS2 HB B D hb; have E := nL hg z; have J := nG hg z; replace z := kB z hb; have I := nL hg A; have L := nG hg A; replace A := kB A hb; clear hb hbox hg; refine hK.out _ _ (bD3 z) (fun hHeld => ?_); clear hK K; refine nm_ 4 ?_; exact norm_ pO (dq (V) _ ⟨hHeld, kQ z, kQ A, kQ G, W, F, E, J, I, L, bT3 HB B D F⟩)
  ·exact nX c3 H
 ·exact nX c2 H

end Go.Proofs.Ytninoenmhcbonaa.X
