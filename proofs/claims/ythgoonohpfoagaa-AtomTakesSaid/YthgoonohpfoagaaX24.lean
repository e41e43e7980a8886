/- What the functions of this seat compute, and that the program's calls come to just that: written by this session's own program out of the translation; no condition. -/
import Derived.Test.YthgoonohpfoagaaX0
import Derived.Test.YthgoonohpfoagaaX17
namespace Go.Proofs.Ythgoonohpfoagaa.X
open Go.RowKit Go.Proofs.YthgoonohpfoagaaW.PrintWords Go.Proofs.YthgoonohpfoagaaW.PrintLast Go.Proofs.YthgoonohpfoagaaW.PrintMore
attribute [local go_sem] max2_int min2_int max_two min_two max_three min_three max_four min_four
set_option linter.unusedVariables false
set_option linter.unusedSimpArgs false
set_option maxHeartbeats 8000000
set_option maxRecDepth 100000

/-! ### tabardref12_Word: function 17 -/
def tabardref12_Word.l0 : Nat → List Int → Int → Int → Option (Bool)
 | 0, _, _, _ => none
 | k + 1, x0, x1, x5 => if x5 < (x0.length : Int) then (if 0 ≤ x5 then (if (rd x0 x5) < 0 then (some false) else ((tabardref12_Letters.f k x1).bind fun t261 => (if (rd x0 x5) ≥ t261 then (some false) else (tabardref12_Word.l0 k x0 x1 (wrap64 (x5 + 1)))))) else (none)) else (some true)
def tabardref12_Word.f (k : Nat) (l0 : List Int) (a1 : Int) : Option (Bool) := tabardref12_Word.l0 k l0 a1 0
theorem tabardref12_Word.mono_l : ∀ k, (∀ y0 y1 y2, LeO (tabardref12_Word.l0 k y0 y1 y2) (tabardref12_Word.l0 (k + 1) y0 y1 y2))
 | 0 => fun _ _ _ r h => by simp [tabardref12_Word.l0] at h
 | k + 1 => by
  have ih0 := tabardref12_Word.mono_l k
  ·intro y0 y1 y2
   unfold tabardref12_Word.l0
   repeat' first | (with_reducible first | exact ih0 _ _ _ | exact tabardref12_Letters.mono _ _ | exact lA | apply lI | refine lB ?_ fun _ => ?_) | exact lN _ | apply lI | refine lB ?_ fun _ => ?_
theorem tabardref12_Word.mono : ∀ a0 a1 k, LeO (tabardref12_Word.f k a0 a1) (tabardref12_Word.f (k + 1) a0 a1) := by
 intro a0 a1 k; have ih0 := tabardref12_Word.mono_l k
 unfold tabardref12_Word.f
 repeat' first | (with_reducible first | exact ih0 _ _ _ | exact tabardref12_Letters.mono _ _ | exact lA | apply lI | refine lB ?_ fun _ => ?_) | exact lN _ | apply lI | refine lB ?_ fun _ => ?_
theorem tabardref12_Word.calls (k : Nat) (A0 : Option Addr) (c0 : Nat) (G : List Int) (M : Int) (r : Bool) (w : World) (aa : Kd.C (Kd.int .i64) w A0 G.length G) (ab : G.length ≤ c0) (h : tabardref12_Word.f k G M = some r) :
  Calls Try.prog 17 #[.slice A0 G.length c0, .int .i64 M] w fun e w' => e = .returned (.bool r) ∧ Drawn0 w w' := by
 have P := aM aa; have ak := aM ab; clear aa ab; rw [tabardref12_Word.f] at h; have H := h; clear h; have H' := aM H; clear H
 go_enter Try.func17, Try.ntmps17
 go_wp2
 repeat (go_quiet (fail); try go_wp2)
 go_loopg [5] k (fun kq v5 w' => ∃ (z : Int), v5 = .int .i64 z ∧ Aside0 (tabardref12_Word.l0 kq G M z = some r) ∧ Aside0 (kq ≤ k) ∧ Drawn0 w w')
 case atStart => exact ⟨(0), sI, H', ⟨Nat.le_refl _⟩, by repeat (first | exact Drawn0.refl _ | apply Drawn0.step)⟩
 case round =>
  clear H'
  obtain ⟨z, rfl, HA, HK1, ⟨m1, rfl⟩⟩ := hrel; cases gk with
  | zero => exact absurd HA.out (by simp [tabardref12_Word.l0])
  | succ k1 =>
   have H := HA.out; clear HA; simp only [tabardref12_Word.l0] at H
   by_cases R : z < (G.length : Int)
   ·rw [if_pos R] at H; have ad := dT R; clear R
    by_cases Z : 0 ≤ z
    ·rw [if_pos Z] at H; have aj := dT Z; clear Z
     by_cases U : (rd G z) < 0
     ·rw [if_pos U] at H; have ae := dT U; clear U; obtain rfl := Option.some.inj H; have A : 0 ≤ (z : Int) := oT aO; have B : z < (G.length : Int) := oT aO; obtain ⟨I, J, L⟩ := Kd.at_int P.out z A B; cases J; replace A := eq_true A; replace B := eq_true B
      go_wp2
      repeat (go_quiet (fail); try go_wp2)
      go_ret
      exact ⟨by first | rfl | (simp; done) | (simp [*]; done), by repeat (first | exact Drawn0.refl _ | apply Drawn0.step)⟩
     ·rw [if_neg U] at H; have ae := decide_eq_false U; clear U; replace H := Option.bind_eq_some_iff.mp H; obtain ⟨D, ac, H⟩ := H; have V := aM ac; clear ac
      by_cases W : (rd G z) ≥ D
      ·rw [if_pos W] at H; have af := dT W; clear W; obtain rfl := Option.some.inj H; have A : 0 ≤ (z : Int) := oT aO; have B : z < (G.length : Int) := oT aO; obtain ⟨I, J, L⟩ := Kd.at_int P.out z A B; cases J; replace A := eq_true A; replace B := eq_true B; have E : 0 ≤ (z : Int) := oT aO; have F : z < (G.length : Int) := oT aO; obtain ⟨O, Q, Y⟩ := Kd.at_int P.out z E F; have he_ : I = O := (by injection Q); subst he_; replace E := eq_true E; replace F := eq_true F
       go_wp2_with (first | (go_at_call 29; (with_reducible refine (tabardref12_Letters.calls k1 M D _ V.out).mono ?_); rintro e w' ⟨rfl, ⟨nd, rfl⟩⟩; (try exact dN)))
       repeat (go_quiet (first | (go_at_call 29; (with_reducible refine (tabardref12_Letters.calls k1 M D _ V.out).mono ?_); rintro e w' ⟨rfl, ⟨nd, rfl⟩⟩; (try exact dN))); try go_wp2_with (first | (go_at_call 29; (with_reducible refine (tabardref12_Letters.calls k1 M D _ V.out).mono ?_); rintro e w' ⟨rfl, ⟨nd, rfl⟩⟩; (try exact dN))))
       go_ret
       exact ⟨by first | rfl | (simp; done) | (simp [*]; done), by repeat (first | exact Drawn0.refl _ | apply Drawn0.step)⟩
      ·rw [if_neg W] at H; have af := decide_eq_false W; clear W; have H' := aM H; clear H; have A : 0 ≤ (z : Int) := oT aO; have B : z < (G.length : Int) := oT aO; obtain ⟨I, J, L⟩ := Kd.at_int P.out z A B; cases J; replace A := eq_true A; replace B := eq_true B; have E : 0 ≤ (z : Int) := oT aO; have F : z < (G.length : Int) := oT aO; obtain ⟨O, Q, Y⟩ := Kd.at_int P.out z E F; have he_ : I = O := (by injection Q); subst he_; replace E := eq_true E; replace F := eq_true F
       go_wp2_with (first | (go_at_call 29; (with_reducible refine (tabardref12_Letters.calls k1 M D _ V.out).mono ?_); rintro e w' ⟨rfl, ⟨nd, rfl⟩⟩; (try exact dN)))
       repeat (go_quiet (first | (go_at_call 29; (with_reducible refine (tabardref12_Letters.calls k1 M D _ V.out).mono ?_); rintro e w' ⟨rfl, ⟨nd, rfl⟩⟩; (try exact dN))); try go_wp2_with (first | (go_at_call 29; (with_reducible refine (tabardref12_Letters.calls k1 M D _ V.out).mono ?_); rintro e w' ⟨rfl, ⟨nd, rfl⟩⟩; (try exact dN))))
       go_roundg k1
       case measure => have := HK1.out; omega
       case rel => exact ⟨(wrap64 (z + 1)), sI, H', ⟨by have := HK1.out; omega⟩, by repeat (first | exact Drawn0.refl _ | apply Drawn0.step)⟩
    ·exact nX Z H
   ·rw [if_neg R] at H; have ad := decide_eq_false R; clear R; obtain rfl := Option.some.inj H
    go_wp2
    repeat (go_quiet (fail); try go_wp2)
    go_ret
    exact ⟨by first | rfl | (simp; done) | (simp [*]; done), by repeat (first | exact Drawn0.refl _ | apply Drawn0.step)⟩

/-! ### tabardref12_Run: function 36 -/
def tabardref12_Run.l0 : Nat → Int → List Int → Int → List ByteArray → List Bool → List (List Int) → Option (Int)
 | 0, _, _, _, _, _, _ => none
 | k + 1, x1, x2, x7, x263000, x263001, x263002 => if x7 < (x2.length : Int) then (if 0 ≤ x1 then (if x1 < (x263002.length : Int) then (if 0 ≤ x7 then (if 0 ≤ (rd x2 x7) then (if (rd x2 x7) < ((rd_L3 x263002 x1).length : Int) then (tabardref12_Run.l0 k (rd (rd_L3 x263002 x1) (rd x2 x7)) x2 (wrap64 (x7 + 1)) x263000 x263001 x263002) else (none)) else (none)) else (none)) else (none)) else (none)) else (some x1)
def tabardref12_Run.f (k : Nat) (l0_0 : List ByteArray) (l0_1 : List Bool) (l0_2 : List (List Int)) (a1 : Int) (l2 : List Int) : Option (Int) := tabardref12_Run.l0 k a1 l2 0 l0_0 l0_1 l0_2
theorem tabardref12_Run.mono_l : ∀ k, (∀ y0 y1 y2 y3 y4 y5, LeO (tabardref12_Run.l0 k y0 y1 y2 y3 y4 y5) (tabardref12_Run.l0 (k + 1) y0 y1 y2 y3 y4 y5))
 | 0 => fun _ _ _ _ _ _ r h => by simp [tabardref12_Run.l0] at h
 | k + 1 => by
  have ih0 := tabardref12_Run.mono_l k
  ·intro y0 y1 y2 y3 y4 y5
   unfold tabardref12_Run.l0
   repeat' first | (with_reducible first | exact ih0 _ _ _ _ _ _ | exact lA | apply lI | refine lB ?_ fun _ => ?_) | exact lN _ | apply lI | refine lB ?_ fun _ => ?_
theorem tabardref12_Run.mono : ∀ a0 a1 a2 a3 a4 k, LeO (tabardref12_Run.f k a0 a1 a2 a3 a4) (tabardref12_Run.f (k + 1) a0 a1 a2 a3 a4) := by
 intro a0 a1 a2 a3 a4 k; have ih0 := tabardref12_Run.mono_l k
 unfold tabardref12_Run.f
 repeat' first | (with_reducible first | exact ih0 _ _ _ _ _ _ | exact lA | apply lI | refine lB ?_ fun _ => ?_) | exact lN _ | apply lI | refine lB ?_ fun _ => ?_
theorem tabardref12_Run.calls (k : Nat) (J : Option Addr) (L : Nat) (D : List ByteArray) (M : Option Addr) (O : Nat) (E : List Bool) (P : Option Addr) (Q : Nat) (z : List (List Int)) (a1 : Int) (A2 : Option Addr) (c2 : Nat) (G : List Int) (r : Int) (w : World) (ag : Kd.C Kd.string w J D.length D) (ah : D.length ≤ L) (ai : Kd.C Kd.bool w M E.length E) (aj : E.length ≤ O) (ak : Kd.C (Kd.slice 3 (Kd.int .i64)) w P z.length z) (al : z.length ≤ Q) (ax : Kd.C (Kd.int .i64) w A2 G.length G) (ay : G.length ≤ c2) (h : tabardref12_Run.f k D E z a1 G = some r) :
  Calls Try.prog 36 #[.agg #[.slice J D.length L, .slice M E.length O, .slice P z.length Q], .int .i64 a1, .slice A2 G.length c2] w fun e w' => e = .returned (.int .i64 r) ∧ Below w.heap.size w w' := by
 have hu31 := Try.underlying31; have aT := aM ag; have aU := aM ah; clear ag ah; have aV := aM ai; have aW := aM aj; clear ai aj; have aq := aM ak; have aX := aM al; clear ak al; have aP := aM ax; have bd := aM ay; clear ax ay; have HB := aM (Below.refl w.heap.size w); rw [tabardref12_Run.f] at h; have H := h; clear h; have H' := aM H; clear H
 go_enter Try.func36, Try.ntmps36
 go_wp2_with (first | ((with_reducible refine gate_dst (N := 3) rfl ?_); refine be_ (cs := #[.slice J D.length L, .slice M E.length O, .slice P z.length Q]) (t := 31) ?_; intro Z hg w4 hbox hb; have F := aM (hbox); have am := gE hg (bP0 HB); have I := gE hg (bP0 HB); replace HB := hS0 HB hb; clear hb hbox hg))
 repeat (go_quiet (first | ((with_reducible refine gate_dst (N := 3) rfl ?_); refine be_ (cs := #[.slice J D.length L, .slice M E.length O, .slice P z.length Q]) (t := 31) ?_; intro Z hg w4 hbox hb; have F := aM (hbox); have am := gE hg (bP0 HB); have I := gE hg (bP0 HB); replace HB := hS0 HB hb; clear hb hbox hg)); try go_wp2_with (first | ((with_reducible refine gate_dst (N := 3) rfl ?_); refine be_ (cs := #[.slice J D.length L, .slice M E.length O, .slice P z.length Q]) (t := 31) ?_; intro Z hg w4 hbox hb; have F := aM (hbox); have am := gE hg (bP0 HB); have I := gE hg (bP0 HB); replace HB := hS0 HB hb; clear hb hbox hg)))
 go_loopg [1, 7] k (fun kq v1 v7 w' => ∃ (B : Int) (A : Int), v1 = .int .i64 B ∧ v7 = .int .i64 A ∧ Aside0 (tabardref12_Run.l0 kq B G A D E z = some r) ∧ Aside0 (kq ≤ k) ∧ Aside0 (w'.heap[Z]? = some (.cells #[(.slice J D.length L), (.slice M E.length O), (.slice P z.length Q)] 31 (0, 0))) ∧ BA w w')
 case atStart => exact ⟨(a1), (0), sI, sI, H', ⟨Nat.le_refl _⟩, kQ F, bT1 HB I⟩
 case round =>
  clear H'
  obtain ⟨B, A, rfl, rfl, HA, HK1, F, HB⟩ := hrel; cases gk with
  | zero => exact absurd HA.out (by simp [tabardref12_Run.l0])
  | succ k1 =>
   have H := HA.out; clear HA; simp only [tabardref12_Run.l0] at H
   by_cases c5 : A < (G.length : Int)
   ·rw [if_pos c5] at H; have aA := dT c5; clear c5
    by_cases c6 : 0 ≤ B
    ·rw [if_pos c6] at H; have a9 := dT c6; clear c6
     by_cases c7 : B < (z.length : Int)
     ·rw [if_pos c7] at H; have ba := dT c7; clear c7
      by_cases c8 : 0 ≤ A
      ·rw [if_pos c8] at H; have bb := dT c8; clear c8
       by_cases c9 : 0 ≤ (rd G A)
       ·rw [if_pos c9] at H; have bc := dT c9; clear c9
        by_cases an : (rd G A) < ((rd_L3 z B).length : Int)
        ·rw [if_pos an] at H; have aY := dT an; clear an; have H' := aM H; clear H; obtain ⟨aE, aF, aG, aH, aI, aJ⟩ := bG3 F; have aa : 0 ≤ (B : Int) := oT aO; have ab : B < (z.length : Int) := oT aO; obtain ⟨aZ, aR, aS, aB, R, U, V⟩ := at_L3 aq.out B aa ab; cases aB; replace R := cX HB R; have ap := aM V; have aK := aM U; clear V U; replace aa := eq_true aa; replace ab := eq_true ab; have ac : 0 ≤ (A : Int) := oT aO; have ad : A < (G.length : Int) := oT aO; obtain ⟨a5, aC, W⟩ := Kd.at_int aP.out A ac ad; cases aC; replace W := cX HB W; replace ac := eq_true ac; replace ad := eq_true ad; have ae : 0 ≤ ((rd G A) : Int) := oT aO; have af : (rd G A) < ((rd_L3 z B).length : Int) := oT aO; obtain ⟨a6, aD, Y⟩ := Kd.at_int ap.out (rd G A) ae af; cases aD; replace Y := cX HB Y; replace ae := eq_true ae; replace af := eq_true af
         go_wp2
         repeat (go_quiet (fail); try go_wp2)
         go_roundg k1
         case measure => have := HK1.out; omega
         case rel => exact ⟨(rd (rd_L3 z B) (rd G A)), (wrap64 (A + 1)), sI, sI, H', ⟨by have := HK1.out; omega⟩, kQ F, bT1 HB I⟩
        ·exact nX an H
       ·exact nX c9 H
      ·exact nX c8 H
     ·exact nX c7 H
    ·exact nX c6 H
   ·rw [if_neg c5] at H; have aA := decide_eq_false c5; clear c5; obtain rfl := Option.some.inj H
    go_wp2
    repeat (go_quiet (fail); try go_wp2)
    go_ret
    exact ⟨eW, bS1 HB.out I.out⟩

end Go.Proofs.Ythgoonohpfoagaa.X
namespace Go.Proofs.Ythgoonohpfoagaa.X
open Go.RowKit Go.Proofs.YthgoonohpfoagaaW.PrintWords Go.Proofs.YthgoonohpfoagaaW.PrintLast Go.Proofs.YthgoonohpfoagaaW.PrintMore
attribute [local go_sem] max2_int min2_int max_two min_two max_three min_three max_four min_four
set_option linter.unusedVariables false
set_option linter.unusedSimpArgs false
set_option maxHeartbeats 8000000
set_option maxRecDepth 100000

/-! ### tabardref12_Takes: function 18 -/
def tabardref12_Takes.f (k : Nat) (l0_0 : List ByteArray) (l0_1 : List Bool) (l0_2 : List (List Int)) (l1 : List Int) : Option (Bool) := (tabardref12_Run.f k l0_0 l0_1 l0_2 0 l1).bind fun t267 => (if 0 ≤ t267 then (if t267 < (l0_1.length : Int) then (some (rdOf false l0_1 t267)) else (none)) else (none))
theorem tabardref12_Takes.mono : ∀ a0 a1 a2 a3 k, LeO (tabardref12_Takes.f k a0 a1 a2 a3) (tabardref12_Takes.f (k + 1) a0 a1 a2 a3) := by
 intro a0 a1 a2 a3 k
 unfold tabardref12_Takes.f
 repeat' first | (with_reducible first | exact tabardref12_Run.mono _ _ _ _ _ _ | exact lA | apply lI | refine lB ?_ fun _ => ?_) | exact lN _ | apply lI | refine lB ?_ fun _ => ?_
def tabardref12_Takes.T1 : Bool × List (List Nat × List Nat) := (true, [([], []), ([0], [0]), ([], []), ([], []), ([2, 3], [2, 3]), ([1, 4], [1, 4]), ([5], [5]), ([6, 4, 0, 1, 2, 3, 4, 5, 6], [6])])
def tabardref12_Takes.B1 : List Nat := [0, 1, 0, 0, 12, 31, 63, 127]
theorem tabardref12_Takes.tab1 : rtab .any (opsOf Try.f18 1) = tabardref12_Takes.T1 := by kernel_rfl
theorem tabardref12_Takes.bits1 : waitsOk tabardref12_Takes.T1.2 tabardref12_Takes.B1 = true := by kernel_rfl
theorem tabardref12_Takes.calls (k : Nat) (I : Option Addr) (J : Nat) (B : List ByteArray) (R : Option Addr) (L : Nat) (A : List Bool) (M : Option Addr) (O : Nat) (D : List (List Int)) (A1 : Option Addr) (c1 : Nat) (U : List Int) (r : Bool) (w : World) (Y : Kd.C Kd.string w I B.length B) (Z : B.length ≤ J) (aa : Kd.C Kd.bool w R A.length A) (ab : A.length ≤ L) (ac : Kd.C (Kd.slice 3 (Kd.int .i64)) w M D.length D) (ad : D.length ≤ O) (an : Kd.C (Kd.int .i64) w A1 U.length U) (ao : U.length ≤ c1) (h : tabardref12_Takes.f k B A D U = some r) :
  Calls Try.prog 18 #[.agg #[.slice I B.length J, .slice R A.length L, .slice M D.length O], .slice A1 U.length c1] w fun e w' => e = .returned (.bool r) ∧ Below w.heap.size w w' := by
 have hu31 := Try.underlying31; have ag := aM Y; have ah := aM Z; clear Y Z; have ae := aM aa; have ai := aM ab; clear aa ab; have aj := aM ac; have ak := aM ad; clear ac ad; have av := aM an; have aw := aM ao; clear an ao; have HB := aM (Below.refl w.heap.size w); rw [tabardref12_Takes.f] at h; have H := h; clear h; replace H := Option.bind_eq_some_iff.mp H; obtain ⟨E, ap, H⟩ := H; have A3 := aM ap; clear ap
 by_cases c4 : 0 ≤ E
 ·rw [if_pos c4] at H; have az := dT c4; clear c4
  by_cases c5 : E < (A.length : Int)
  ·rw [if_pos c5] at H; have aA := dT c5; clear c5; obtain rfl := Option.some.inj H
   go_enter Try.func18, Try.ntmps18
   try go_wp2_with (first | ((with_reducible refine gate_dst (N := 2) rfl ?_); refine be_ (cs := #[.slice I B.length J, .slice R A.length L, .slice M D.length O]) (t := 31) ?_; intro P hg w6 hbox hb; have z := aM (hbox); have ax := gE hg (bP0 HB); have af := gE hg (bP0 HB); replace HB := hS0 HB hb; clear hb hbox hg))
   replace z := kD z; replace HB := aM (below_drew1 HB.out); have V : 0 ≤ (E : Int) := oT aO; have W : E < (A.length : Int) := oT aO; obtain ⟨Q, au, F⟩ := Kd.at_bool ae.out E V W; have G := F; cases au; replace F := cX HB F; replace V := eq_true V; replace W := eq_true W; refine start_ (n := 8) (S := fun w' => w'.cell? ⟨P, 0, none⟩ = some (.slice I B.length J) ∧ w'.cell? ⟨P, 1, none⟩ = some (.slice (some Q) A.length L) ∧ w'.cell? ⟨P, 2, none⟩ = some (.slice M D.length O) ∧ w'.cell? (Q.add (E).toNat) = some (.bool (rdOf false A E))) (ds := []) (bl 8 0) (by kernel_rfl) rfl rfl ⟨(blk_cell z.out 0).trans rfl, (blk_cell z.out 1).trans rfl, (blk_cell z.out 2).trans rfl, ((HB.out.cell (World.block_lt_of_cell? w _ G)).trans G)⟩ (fun hHeld => ?_); refine with_tabW tabardref12_Takes.tab1 tabardref12_Takes.bits1 (fun HT_ HW_ => ?_); generalize w6.drew = w7 at z HB F hHeld ⊢; refine pu_ 0 5 (bl 8 1) HT_ ?_; refine pu_ 3 8 (bl 8 9) HT_ ?_; refine tk4_ 1 6 (bl 8 11) HT_ HW_ hHeld ?_; refine tk4_ 2 7 (bl 8 15) HT_ HW_ hHeld ?_; refine one_ (i := 4) (N := some 9) (bl 8 31) rfl rfl (one_of HT_.out (by kernel_rfl)) (by decide) (fun K hK => ?_); refine gS_ Try.func36 #[.agg #[.slice I B.length J, .slice (some Q) A.length L, .slice M D.length O], .int .i64 0, .slice A1 U.length c1] ?_
   with_reducible refine (tabardref12_Run.calls k _ _ B _ _ A _ _ D 0 _ _ U E _ ?s1 ?s2 ?s3 ?s4 ?s5 ?s6 ?s7 ?s8 A3.out).mono ?_
   (case s1 => exact cB ag HB)
   (case s2 => exact ah.out)
   (case s3 => exact cB ae HB)
   (case s4 => exact ai.out)
   (case s5 => exact cB aj HB)
   (case s6 => exact ak.out)
   (case s7 => exact cB av HB)
   (case s8 => exact aw.out)
   rintro e w8 ⟨rfl, hb⟩; refine ⟨_, rfl, ?_⟩; replace z := kB z hb; replace HB := hS1 HB af hb
   (try clear hb)
   (try clear aC)
   (try clear hk)
   (try clear hi)
   refine hK.out _ _ ⟨(blk_cell z.out 0).trans rfl, (blk_cell z.out 1).trans rfl, (blk_cell z.out 2).trans rfl, ((HB.out.cell (World.block_lt_of_cell? w _ G)).trans G)⟩ (fun hHeld => ?_); clear hK K; refine nm_ 9 ?_; refine pu_ 5 10 (bl 8 63) HT_ ?_; refine tk4_ 6 11 (bl 8 127) HT_ HW_ hHeld ?_; refine pu_ 7 4 (bl 8 255) HT_ ?_; refine done_ (done_of HT_.out (by kernel_rfl)) ?_
   try go_wp2
   go_ret
   exact ⟨eW, bS1 HB.out af.out⟩
  ·exact nX c5 H
 ·exact nX c4 H

-- NOT PRINTED: function 5 (tabardlaw14_AtomTurns)

end Go.Proofs.Ythgoonohpfoagaa.X
