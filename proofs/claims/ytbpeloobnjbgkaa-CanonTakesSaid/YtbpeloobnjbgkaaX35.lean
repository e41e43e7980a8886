/- What the functions of this seat compute, and that the program's calls come to just that: written by this session's own program out of the translation; no condition. -/
import Derived.Test.YtbpeloobnjbgkaaX0
import Derived.Test.YtbpeloobnjbgkaaX24
namespace Go.Proofs.Ytbpeloobnjbgkaa.X
open Go.RowKit Go.Proofs.YtbpeloobnjbgkaaW.PrintWords Go.Proofs.YtbpeloobnjbgkaaW.PrintLast Go.Proofs.YtbpeloobnjbgkaaW.PrintMore
attribute [local go_sem] max2_int min2_int max_two min_two max_three min_three max_four min_four
set_option linter.unusedVariables false
set_option linter.unusedSimpArgs false
set_option maxHeartbeats 8000000
set_option maxRecDepth 100000

/-! ### tabardref12_Word: function 25 -/
def tabardref12_Word.l0 : Nat → List Int → Int → Int → Option (Bool)
 | 0, _, _, _ => none
 | k + 1, x0, x1, x5 => if x5 < (x0.length : Int) then (if 0 ≤ x5 then (if (rd x0 x5) < 0 then (some false) else ((tabardref12_Letters.f k x1).bind fun t502 => (if (rd x0 x5) ≥ t502 then (some false) else (tabardref12_Word.l0 k x0 x1 (wrap64 (x5 + 1)))))) else (none)) else (some true)
def tabardref12_Word.f (k : Nat) (l0 : List Int) (a1 : Int) : Option (Bool) := tabardref12_Word.l0 k l0 a1 0
theorem tabardref12_Word.mono_l : ∀ k, (∀ y0 y1 y2, LeO (tabardref12_Word.l0 k y0 y1 y2) (tabardref12_Word.l0 (k + 1) y0 y1 y2))
 | 0 => fun _ _ _ r h => by simp [tabardref12_Word.l0] at h
 | k + 1 => by
  have ih0 := tabardref12_Word.mono_l k
  ·intro y0 y1 y2
   unfold tabardref12_Word.l0
   repeat' first | (with_reducible first | exact ih0 _ _ _ | exact tabardref12_Letters.mono _ _ | exact lA | apply lI | refine lB ?_ fun _ => ?_) | exact lN _ | apply lI | refine lB ?_ fun _ => ?_
theorem tabardref12_Word.mono : ∀ a0 a1 k, LeO (tabardref12_Word.f k a0 a1) (tabardref12_Word.f (k + 1) a0 a1) := by
 intro a0 a1 k; have ih0 := tabardref12_Word.mono_l k
 unfold tabardref12_Word.f
 repeat' first | (with_reducible first | exact ih0 _ _ _ | exact tabardref12_Letters.mono _ _ | exact lA | apply lI | refine lB ?_ fun _ => ?_) | exact lN _ | apply lI | refine lB ?_ fun _ => ?_
theorem tabardref12_Word.calls (k : Nat) (A0 : Option Addr) (c0 : Nat) (G : List Int) (M : Int) (r : Bool) (w : World) (aa : Kd.C (Kd.int .i64) w A0 G.length G) (ab : G.length ≤ c0) (h : tabardref12_Word.f k G M = some r) :
  Calls Try.prog 25 #[.slice A0 G.length c0, .int .i64 M] w fun e w' => e = .returned (.bool r) ∧ Drawn0 w w' := by
 have P := aM aa; have ak := aM ab; clear aa ab; rw [tabardref12_Word.f] at h; have H := h; clear h; have H' := aM H; clear H
 go_enter Try.func25, Try.ntmps25
 go_wp2
 repeat (go_quiet (fail); try go_wp2)
 go_loopg [5] k (fun kq v5 w' => ∃ (z : Int), v5 = .int .i64 z ∧ Aside0 (tabardref12_Word.l0 kq G M z = some r) ∧ Aside0 (kq ≤ k) ∧ Drawn0 w w')
 case atStart => exact ⟨(0), sI, H', ⟨Nat.le_refl _⟩, dRw⟩
 case round =>
  clear H'
  obtain ⟨z, rfl, HA, ar, ⟨m1, rfl⟩⟩ := hrel; cases gk with
  | zero => exact absurd HA.out (by simp [tabardref12_Word.l0])
  | succ k1 =>
   have H := HA.out; clear HA; simp only [tabardref12_Word.l0] at H
   apply iB H <;> clear H <;> intro R H
   ·have ad := dT R; clear R
    apply iN H; clear H; intro Z H; have aj := dT Z; clear Z
    apply iB H <;> clear H <;> intro U H
    ·have ae := dT U; clear U; obtain rfl := Option.some.inj H; obtain ⟨⟨I, J, L⟩, A, B⟩ := xAt (Kd.at_int P.out) z; cases J
     go_wp2
     repeat (go_quiet (fail); try go_wp2)
     go_ret
     exact ⟨eVl, dRw⟩
    ·have ae := decide_eq_false U; clear U; apply bSx H; clear H; intro D V H
     apply iB H <;> clear H <;> intro W H
     ·have af := dT W; clear W; obtain rfl := Option.some.inj H; obtain ⟨⟨I, J, L⟩, A, B⟩ := xAt (Kd.at_int P.out) z; cases J; obtain ⟨⟨O, Q, Y⟩, E, F⟩ := xAt (Kd.at_int P.out) z; obtain rfl := sJJ Q
      go_wp2_with (first | (go_at_call 34; (with_reducible refine (tabardref12_Letters.calls k1 M D _ V.out).mono ?_); rintro e w' ⟨rfl, ⟨nd, rfl⟩⟩; (try exact dN)))
      repeat (go_quiet (first | (go_at_call 34; (with_reducible refine (tabardref12_Letters.calls k1 M D _ V.out).mono ?_); rintro e w' ⟨rfl, ⟨nd, rfl⟩⟩; (try exact dN))); try go_wp2_with (first | (go_at_call 34; (with_reducible refine (tabardref12_Letters.calls k1 M D _ V.out).mono ?_); rintro e w' ⟨rfl, ⟨nd, rfl⟩⟩; (try exact dN))))
      go_ret
      exact ⟨eVl, dRw⟩
     ·have af := decide_eq_false W; clear W; have H' := aM H; clear H; obtain ⟨⟨I, J, L⟩, A, B⟩ := xAt (Kd.at_int P.out) z; cases J; obtain ⟨⟨O, Q, Y⟩, E, F⟩ := xAt (Kd.at_int P.out) z; obtain rfl := sJJ Q
      go_wp2_with (first | (go_at_call 34; (with_reducible refine (tabardref12_Letters.calls k1 M D _ V.out).mono ?_); rintro e w' ⟨rfl, ⟨nd, rfl⟩⟩; (try exact dN)))
      repeat (go_quiet (first | (go_at_call 34; (with_reducible refine (tabardref12_Letters.calls k1 M D _ V.out).mono ?_); rintro e w' ⟨rfl, ⟨nd, rfl⟩⟩; (try exact dN))); try go_wp2_with (first | (go_at_call 34; (with_reducible refine (tabardref12_Letters.calls k1 M D _ V.out).mono ?_); rintro e w' ⟨rfl, ⟨nd, rfl⟩⟩; (try exact dN))))
      go_roundg k1
      case measure => have := ar.out; omega
      case rel => exact ⟨(wrap64 (z + 1)), sI, H', ⟨by have := ar.out; omega⟩, dRw⟩
   ·have ad := decide_eq_false R; clear R; obtain rfl := Option.some.inj H
    go_wp2
    repeat (go_quiet (fail); try go_wp2)
    go_ret
    exact ⟨eVl, dRw⟩

/-! ### tabardref12_Run: function 42 -/
def tabardref12_Run.l0 : Nat → Int → List Int → Int → List ByteArray → List Bool → List (List Int) → Option (Int)
 | 0, _, _, _, _, _, _ => none
 | k + 1, x1, x2, x7, x504000, x504001, x504002 => if x7 < (x2.length : Int) then (if 0 ≤ x1 then (if x1 < (x504002.length : Int) then (if 0 ≤ x7 then (if 0 ≤ (rd x2 x7) then (if (rd x2 x7) < ((rd_L1 x504002 x1).length : Int) then (tabardref12_Run.l0 k (rd (rd_L1 x504002 x1) (rd x2 x7)) x2 (wrap64 (x7 + 1)) x504000 x504001 x504002) else (none)) else (none)) else (none)) else (none)) else (none)) else (some x1)
def tabardref12_Run.f (k : Nat) (l0_0 : List ByteArray) (l0_1 : List Bool) (l0_2 : List (List Int)) (a1 : Int) (l2 : List Int) : Option (Int) := tabardref12_Run.l0 k a1 l2 0 l0_0 l0_1 l0_2
theorem tabardref12_Run.mono_l : ∀ k, (∀ y0 y1 y2 y3 y4 y5, LeO (tabardref12_Run.l0 k y0 y1 y2 y3 y4 y5) (tabardref12_Run.l0 (k + 1) y0 y1 y2 y3 y4 y5))
 | 0 => fun _ _ _ _ _ _ r h => by simp [tabardref12_Run.l0] at h
 | k + 1 => by
  have ih0 := tabardref12_Run.mono_l k
  ·intro y0 y1 y2 y3 y4 y5
   unfold tabardref12_Run.l0
   repeat' first | (with_reducible first | exact ih0 _ _ _ _ _ _ | exact lA | apply lI | refine lB ?_ fun _ => ?_) | exact lN _ | apply lI | refine lB ?_ fun _ => ?_
theorem tabardref12_Run.mono : ∀ a0 a1 a2 a3 a4 k, LeO (tabardref12_Run.f k a0 a1 a2 a3 a4) (tabardref12_Run.f (k + 1) a0 a1 a2 a3 a4) := by
 intro a0 a1 a2 a3 a4 k; have ih0 := tabardref12_Run.mono_l k
 unfold tabardref12_Run.f
 repeat' first | (with_reducible first | exact ih0 _ _ _ _ _ _ | exact lA | apply lI | refine lB ?_ fun _ => ?_) | exact lN _ | apply lI | refine lB ?_ fun _ => ?_
theorem tabardref12_Run.calls (k : Nat) (J : Option Addr) (L : Nat) (D : List ByteArray) (M : Option Addr) (O : Nat) (E : List Bool) (P : Option Addr) (Q : Nat) (z : List (List Int)) (a1 : Int) (A2 : Option Addr) (c2 : Nat) (G : List Int) (r : Int) (w : World) (ag : Kd.C Kd.string w J D.length D) (ah : D.length ≤ L) (ai : Kd.C Kd.bool w M E.length E) (aj : E.length ≤ O) (ak : Kd.C (Kd.slice 3 (Kd.int .i64)) w P z.length z) (al : z.length ≤ Q) (ax : Kd.C (Kd.int .i64) w A2 G.length G) (ay : G.length ≤ c2) (h : tabardref12_Run.f k D E z a1 G = some r) :
  Calls Try.prog 42 #[.agg #[.slice J D.length L, .slice M E.length O, .slice P z.length Q], .int .i64 a1, .slice A2 G.length c2] w fun e w' => e = .returned (.int .i64 r) ∧ Below w.heap.size w w' := by
 have hu26 := Try.underlying26; have aT := aM ag; have aU := aM ah; clear ag ah; have aV := aM ai; have aW := aM aj; clear ai aj; have aq := aM ak; have aX := aM al; clear ak al; have aP := aM ax; have bd := aM ay; clear ax ay; have HB := aM (Below.refl w.heap.size w); rw [tabardref12_Run.f] at h; have H := h; clear h; have H' := aM H; clear H
 go_enter Try.func42, Try.ntmps42
 go_wp2_with (first | ((with_reducible refine gate_dst (N := 3) rfl ?_); refine be_ (cs := #[.slice J D.length L, .slice M E.length O, .slice P z.length Q]) (t := 26) ?_; intro Z hg w4 ao hb; have F := aM (ao); have am := gE hg (bP0 HB); have I := gE hg (bP0 HB); replace HB := hS0 HB hb; clear hb ao hg))
 repeat (go_quiet (first | ((with_reducible refine gate_dst (N := 3) rfl ?_); refine be_ (cs := #[.slice J D.length L, .slice M E.length O, .slice P z.length Q]) (t := 26) ?_; intro Z hg w4 ao hb; have F := aM (ao); have am := gE hg (bP0 HB); have I := gE hg (bP0 HB); replace HB := hS0 HB hb; clear hb ao hg)); try go_wp2_with (first | ((with_reducible refine gate_dst (N := 3) rfl ?_); refine be_ (cs := #[.slice J D.length L, .slice M E.length O, .slice P z.length Q]) (t := 26) ?_; intro Z hg w4 ao hb; have F := aM (ao); have am := gE hg (bP0 HB); have I := gE hg (bP0 HB); replace HB := hS0 HB hb; clear hb ao hg)))
 go_loopg [1, 7] k (fun kq v1 v7 w' => ∃ (B : Int) (A : Int), v1 = .int .i64 B ∧ v7 = .int .i64 A ∧ Aside0 (tabardref12_Run.l0 kq B G A D E z = some r) ∧ Aside0 (kq ≤ k) ∧ Aside0 (w'.heap[Z]? = some (.cells #[(.slice J D.length L), (.slice M E.length O), (.slice P z.length Q)] 26 (0, 0))) ∧ BA w w')
 case atStart => exact ⟨(a1), (0), sI, sI, H', ⟨Nat.le_refl _⟩, kQ F, bT1 HB I⟩
 case round =>
  clear H'
  obtain ⟨B, A, rfl, rfl, HA, au, F, HB⟩ := hrel; cases gk with
  | zero => exact absurd HA.out (by simp [tabardref12_Run.l0])
  | succ k1 =>
   have H := HA.out; clear HA; simp only [tabardref12_Run.l0] at H
   apply iB H <;> clear H <;> intro c5 H
   ·have aA := dT c5; clear c5
    apply iN H; clear H; intro c6 H; have a9 := dT c6; clear c6
    apply iN H; clear H; intro c7 H; have ba := dT c7; clear c7
    apply iN H; clear H; intro c8 H; have bb := dT c8; clear c8
    apply iN H; clear H; intro c9 H; have bc := dT c9; clear c9
    apply iN H; clear H; intro an H; have aY := dT an; clear an; have H' := aM H; clear H; obtain ⟨aE, aF, aG, aH, aI, aJ⟩ := bG3 F; have aa : 0 ≤ (B : Int) := oT aO; have ab : B < (z.length : Int) := oT aO; obtain ⟨aZ, aR, aS, aB, R, U, V⟩ := at_L1 aq.out B aa ab; cases aB; replace R := cX HB R; have ap := aM V; have aK := aM U; clear V U; replace aa := eq_true aa; replace ab := eq_true ab; obtain ⟨⟨a5, aC, W⟩, ac, ad⟩ := xAt (Kd.at_int aP.out) A; cases aC; replace W := cX HB W; obtain ⟨⟨a6, aD, Y⟩, ae, af⟩ := xAt (Kd.at_int ap.out) (rd G A); cases aD; replace Y := cX HB Y
    go_wp2
    repeat (go_quiet (fail); try go_wp2)
    go_roundg k1
    case measure => have := au.out; omega
    case rel => exact ⟨(rd (rd_L1 z B) (rd G A)), (wrap64 (A + 1)), sI, sI, H', ⟨by have := au.out; omega⟩, kQ F, bT1 HB I⟩
   ·have aA := decide_eq_false c5; clear c5; obtain rfl := Option.some.inj H
    go_wp2
    repeat (go_quiet (fail); try go_wp2)
    go_ret
    exact ⟨eW, bS1 HB.out I.out⟩

end Go.Proofs.Ytbpeloobnjbgkaa.X
