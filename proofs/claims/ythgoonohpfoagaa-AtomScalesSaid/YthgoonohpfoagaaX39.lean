/- What the functions of this seat compute, and that the program's calls come to just that: written by this session's own program out of the translation; no condition. -/
import Derived.Test.YthgoonohpfoagaaX0
import Derived.Test.YthgoonohpfoagaaX35
import Derived.Test.YthgoonohpfoagaaX38
namespace Go.Proofs.Ythgoonohpfoagaa.X
open Go.RowKit Go.Proofs.YthgoonohpfoagaaW.PrintWords Go.Proofs.YthgoonohpfoagaaW.PrintLast Go.Proofs.YthgoonohpfoagaaW.PrintMore
attribute [local go_sem] max2_int min2_int max_two min_two max_three min_three max_four min_four
set_option linter.unusedVariables false
set_option linter.unusedSimpArgs false
set_option maxHeartbeats 8000000
set_option maxRecDepth 100000

/-! ### slices_Index_int_int: function 63 -/
def slices_Index_int_int.l0 : Nat → List Int → Int → Int → Int → Option (Int)
 | 0, _, _, _, _ => none
 | k + 1, x0, x1, x7, x8 => if x8 < x7 then (if 0 ≤ x8 then (if x8 < (x0.length : Int) then (if x1 = (rd x0 x8) then (some x8) else (slices_Index_int_int.l0 k x0 x1 x7 (wrap64 (x8 + 1)))) else (none)) else (none)) else (some (-1))
def slices_Index_int_int.f (k : Nat) (l0 : List Int) (a1 : Int) : Option (Int) := slices_Index_int_int.l0 k l0 a1 (l0.length : Int) 0
theorem slices_Index_int_int.mono_l : ∀ k, (∀ y0 y1 y2 y3, LeO (slices_Index_int_int.l0 k y0 y1 y2 y3) (slices_Index_int_int.l0 (k + 1) y0 y1 y2 y3))
 | 0 => fun _ _ _ _ r h => by simp [slices_Index_int_int.l0] at h
 | k + 1 => by
  have ih0 := slices_Index_int_int.mono_l k
  ·intro y0 y1 y2 y3
   unfold slices_Index_int_int.l0
   repeat' first | (with_reducible first | exact ih0 _ _ _ _ | exact lA | apply lI | refine lB ?_ fun _ => ?_) | exact lN _ | apply lI | refine lB ?_ fun _ => ?_
theorem slices_Index_int_int.mono : ∀ a0 a1 k, LeO (slices_Index_int_int.f k a0 a1) (slices_Index_int_int.f (k + 1) a0 a1) := by
 intro a0 a1 k; have ih0 := slices_Index_int_int.mono_l k
 unfold slices_Index_int_int.f
 repeat' first | (with_reducible first | exact ih0 _ _ _ _ | exact lA | apply lI | refine lB ?_ fun _ => ?_) | exact lN _ | apply lI | refine lB ?_ fun _ => ?_
theorem slices_Index_int_int.calls (k : Nat) (Z : Option Addr) (c0 : Nat) (D : List Int) (J : Int) (r : Int) (w : World) (P : Kd.C (Kd.int .i64) w Z D.length D) (Q : D.length ≤ c0) (h : slices_Index_int_int.f k D J = some r) :
  Calls Try.prog 63 #[.slice Z D.length c0, .int .i64 J] w fun e w' => e = .returned (.int .i64 r) ∧ Drawn0 w w' := by
 have U := aM P; have ae := aM Q; clear P Q; rw [slices_Index_int_int.f] at h; have H := h; clear h; have H' := aM H; clear H
 go_enter Try.func63, Try.ntmps63
 go_wp2
 go_loopg [8] k (fun kq v8 w' => ∃ (z : Int), v8 = .int .i64 z ∧ Aside0 (slices_Index_int_int.l0 kq D J (D.length : Int) z = some r) ∧ Aside0 (kq ≤ k) ∧ Drawn0 w w')
 case atStart => exact ⟨(0), sI, H', ⟨Nat.le_refl _⟩, by repeat (first | exact Drawn0.refl _ | apply Drawn0.step)⟩
 case round =>
  clear H'
  obtain ⟨z, rfl, HA, HK1, ⟨m1, rfl⟩⟩ := hrel; cases gk with
  | zero => exact absurd HA.out (by simp [slices_Index_int_int.l0])
  | succ k1 =>
   have H := HA.out; clear HA; simp only [slices_Index_int_int.l0] at H
   by_cases F : z < (D.length : Int)
   ·rw [if_pos F] at H; have V := dT F; clear F
    by_cases L : 0 ≤ z
    ·rw [if_pos L] at H; have ac := dT L; clear L
     by_cases M : z < (D.length : Int)
     ·rw [if_pos M] at H; have ad := dT M; clear M
      by_cases I : J = (rd D z)
      ·rw [if_pos I] at H; obtain ⟨W, Y⟩ := bq I; clear I; obtain rfl := Option.some.inj H; have A : 0 ≤ (z : Int) := oT aO; have B : z < (D.length : Int) := oT aO; obtain ⟨O, E, G⟩ := Kd.at_int U.out z A B; cases E; replace A := eq_true A; replace B := eq_true B
       go_wp2
       go_ret
       exact ⟨by first | rfl | (simp; done) | (simp [*]; done), by repeat (first | exact Drawn0.refl _ | apply Drawn0.step)⟩
      ·rw [if_neg I] at H; obtain ⟨W, Y⟩ := bn I; have H' := aM H; clear H; have A : 0 ≤ (z : Int) := oT aO; have B : z < (D.length : Int) := oT aO; obtain ⟨O, E, G⟩ := Kd.at_int U.out z A B; cases E; replace A := eq_true A; replace B := eq_true B
       go_wp2
       go_roundg k1
       case measure => have := HK1.out; omega
       case rel => exact ⟨(wrap64 (z + 1)), sI, H', ⟨by have := HK1.out; omega⟩, by repeat (first | exact Drawn0.refl _ | apply Drawn0.step)⟩
     ·exact nX M H
    ·exact nX L H
   ·rw [if_neg F] at H; have V := decide_eq_false F; clear F; obtain rfl := Option.some.inj H
    go_wp2
    go_ret
    exact ⟨by first | rfl | (simp; done) | (simp [*]; done), by repeat (first | exact Drawn0.refl _ | apply Drawn0.step)⟩

/-! ### canon_Classes: function 37 -/
def canon_Classes.l0 : Nat → List Int → List Int → List Int → Int → Int → Option (List Int × Int)
 | 0, _, _, _, _, _ => none
 | k + 1, x5, x6, x19, x20, x21 => if x21 < x20 then (if 0 ≤ x21 then (if x21 < (x19.length : Int) then ((slices_Index_int_int.f k x5 (rd x19 x21)).bind fun t282 => (if x21 < (x6.length : Int) then (canon_Classes.l0 k x5 (x6.set (x21 : Int).toNat t282) x19 x20 (wrap64 (x21 + 1))) else (none))) else (none)) else (none)) else (some (x6, 0))
def canon_Classes.f (k : Nat) (l0_0 : List ByteArray) (l0_1 : List Bool) (l0_2 : List (List Int)) : Option (List Int × Int) := (table_Right.f k l0_0 l0_1 l0_2).bind fun t274 => (if t274 = 0 then ((canon_classes.f k l0_0 l0_1 l0_2).bind fun t275 => (if 0 ≤ (t275.length : Int) then (if ((t275.length : Int) : Int).toNat ≤ 35184372088832 then (canon_Classes.l0 k t275 (List.replicate ((t275.length : Int) : Int).toNat 0) t275 (t275.length : Int) 0) else (none)) else (none))) else (some (([] : List Int), t274)))
theorem canon_Classes.mono_l : ∀ k, (∀ y0 y1 y2 y3 y4, LeO (canon_Classes.l0 k y0 y1 y2 y3 y4) (canon_Classes.l0 (k + 1) y0 y1 y2 y3 y4))
 | 0 => fun _ _ _ _ _ r h => by simp [canon_Classes.l0] at h
 | k + 1 => by
  have ih0 := canon_Classes.mono_l k
  ·intro y0 y1 y2 y3 y4
   unfold canon_Classes.l0
   repeat' first | (with_reducible first | exact ih0 _ _ _ _ _ | exact canon_classes.mono _ _ _ _ | exact slices_Index_int_int.mono _ _ _ | exact table_Right.mono _ _ _ _ | exact lA | apply lI | refine lB ?_ fun _ => ?_) | exact lN _ | apply lI | refine lB ?_ fun _ => ?_
theorem canon_Classes.mono : ∀ a0 a1 a2 k, LeO (canon_Classes.f k a0 a1 a2) (canon_Classes.f (k + 1) a0 a1 a2) := by
 intro a0 a1 a2 k; have ih0 := canon_Classes.mono_l k
 unfold canon_Classes.f
 repeat' first | (with_reducible first | exact ih0 _ _ _ _ _ | exact canon_classes.mono _ _ _ _ | exact slices_Index_int_int.mono _ _ _ | exact table_Right.mono _ _ _ _ | exact lA | apply lI | refine lB ?_ fun _ => ?_) | exact lN _ | apply lI | refine lB ?_ fun _ => ?_
theorem canon_Classes.calls (k : Nat) (M : Option Addr) (O : Nat) (E : List ByteArray) (P : Option Addr) (Q : Nat) (F : List Bool) (U : Option Addr) (V : Nat) (G : List (List Int)) (r1 : List Int) (r2 : Int) (w : World) (av : Kd.C Kd.string w M E.length E) (aw : E.length ≤ O) (ax : Kd.C Kd.bool w P F.length F) (ay : F.length ≤ Q) (az : Kd.C (Kd.slice 3 (Kd.int .i64)) w U G.length G) (aA : G.length ≤ V) (h : canon_Classes.f k E F G = some (r1, r2)) :
  Calls Try.prog 37 #[.agg #[.slice M E.length O, .slice P F.length Q, .slice U G.length V]] w fun e w' => ∃ aV : Value, e = .returned (.tuple #[aV, .int .i64 r2]) ∧ Kd.R (Kd.int .i64) 3 w' w.heap.size (fun _ => True) aV r1 ∧ Below w.heap.size w w' := by
 have hu31 := Try.underlying31; have ah := aM av; have ai := aM aw; clear av aw; have aj := aM ax; have ak := aM ay; clear ax ay; have al := aM az; have am := aM aA; clear az aA; have HB := aM (Below.refl w.heap.size w); rw [canon_Classes.f] at h; have H := h; clear h; replace H := Option.bind_eq_some_iff.mp H; obtain ⟨aq, aW, H⟩ := H; have A2 := aM aW; clear aW
 by_cases c3 : aq = 0
 ·rw [if_pos c3] at H; obtain ⟨a9, ba⟩ := bq c3; clear c3; replace H := Option.bind_eq_some_iff.mp H; obtain ⟨z, aX, H⟩ := H; have A4 := aM aX; clear aX
  by_cases c5 : 0 ≤ (z.length : Int)
  ·rw [if_pos c5] at H; have bK := eq_true c5; have bL := dT c5; clear c5
   by_cases c6 : ((z.length : Int) : Int).toNat ≤ 35184372088832
   ·rw [if_pos c6] at H; have bM := eq_true c6; have bN := dT c6; clear c6; obtain ⟨bb, ac⟩ : ∃ y_ : List Int, y_ = (List.replicate ((z.length : Int) : Int).toNat 0) := ⟨_, rfl⟩
    first | replace H := rI ac H | rw [← ac] at H
    have aQ := aM ac; clear ac; have H' := aM H; clear H
    go_enter Try.func37, Try.ntmps37
    go_wp2_with (first | ((with_reducible refine gate_dst (N := 1) rfl ?_); refine be_ (cs := #[.slice M E.length O, .slice P F.length Q, .slice U G.length V]) (t := 31) ?_; intro an hg w7 hbox hb; have A := aM (hbox); have aR := gE hg (bP0 HB); have D := gE hg (bP0 HB); replace HB := hS0 HB hb; clear hb hbox hg; obtain ⟨bu, bv, bw, bx, bz, bA⟩ := bG3 A) | ((with_reducible refine gate_callee (f := 61) rfl ?_); refine gL_ (some 10) Try.func61 #[.agg #[.slice M E.length O, .slice P F.length Q, .slice U G.length V]] ?_; (with_reducible refine (table_Right.calls k _ _ E _ _ F _ _ G aq _ ?s1 ai.out ?s3 ak.out ?s5 am.out A2.out).mono ?_); (case s1 => exact cB ah HB); (case s3 => exact cB aj HB); (case s5 => exact cB al HB); rintro e w9 ⟨rfl, hb⟩; refine ⟨_, rfl, ?_⟩; replace A := kB A hb; replace HB := hS1 HB D hb; (try clear hb); (try clear hk); obtain ⟨be, bf, bg, bh, bi, bj⟩ := bG3 A) | ((with_reducible refine gate_callee (f := 62) rfl ?_); refine gL_ (some 15) Try.func62 #[.agg #[.slice M E.length O, .slice P F.length Q, .slice U G.length V]] ?_; (with_reducible refine (canon_classes.calls k _ _ E _ _ F _ _ G z _ ?s1 ai.out ?s3 ak.out ?s5 am.out A4.out).mono ?_); (case s1 => exact cB ah HB); (case s3 => exact cB aj HB); (case s5 => exact cB al HB); rintro e bP ⟨bO, rfl, aY, hb⟩; refine ⟨_, rfl, ?_⟩; have aa := rW aY (bP1 HB D); replace A := kB A hb; replace HB := hS1 HB D hb; (try clear hb); (try clear hk); (try clear aY); obtain ⟨ao, J, bc⟩ := sL aa; subst bc) | ((with_reducible refine gate_dst (N := 18) rfl ?_); refine Kd.R_make (Kd.int .i64) _ 3 rfl (N := 18) rfl 42 _ _ rfl (z.length : Int) rfl rfl Try.underlying42 (.int .i64 0) 8 info3 rfl (by decide) (by omega) 0 (ok := fun _ => True) (okp := fun _ => True) rfl (fun _ hk => hk) trivial (oT aO) (Nat.le_trans (Nat.mul_le_mul_right _ (oT aO : (z.length : Int).toNat ≤ 35184372088832)) (by omega)) (Below.refl _ _) (Nat.le_refl _) ?_; intro ab bQ ae hb hg_ hnew_; clear hg_ hnew_; replace ae := nW aQ ae; have aS := rW (Kd.R_new' ae (Kd.R_lt (rP aa))) (bP1 HB D); replace aa := aM (Kd.R_elder' (rP aa) (Kd.R_base ae) hb); replace A := kB A hb; replace HB := hS1 HB D hb; clear hb ae))
    go_loopg [21] k (fun kq bB w' => ∃ (I : List Int) (B : Int), bB = .int .i64 B ∧ Aside0 (canon_Classes.l0 kq z I z (z.length : Int) B = some (r1, r2)) ∧ Aside0 (kq ≤ k) ∧ Aside0 (Kd.R (Kd.int .i64) 3 w' w.heap.size (fun k_ => some k_ ≠ (ab : Value).ownBlock) (.slice ao z.length J) z) ∧ Aside0 (Kd.R (Kd.int .i64) 3 w' w.heap.size (fun k_ => some k_ ≠ ((.slice ao z.length J) : Value).ownBlock ∧ some k_ ≠ ((.slice ao z.length J) : Value).ownBlock) ab I) ∧ Aside0 (Kd.R (Kd.int .i64) 3 w' w.heap.size (fun k_ => some k_ ≠ (ab : Value).ownBlock) (.slice ao z.length J) z) ∧ Aside0 (w'.heap[an]? = some (.cells #[(.slice M E.length O), (.slice P F.length Q), (.slice U G.length V)] 31 (0, 0))) ∧ BA w w')
    case atStart => exact ⟨(bb), (0), sI, H', ⟨Nat.le_refl _⟩, ⟨rM aa (fun _ hk => hk.2)⟩, ⟨by (with_reducible repeat (first | apply Kd.R_alloc | apply Kd.R_drewN | apply Kd.R_drew)); exact Kd.R_mono aS.out (fun _ hk => ⟨hk.2, hk.2⟩)⟩, ⟨rM aa (fun _ hk => hk.2)⟩, kQ A, bT1 HB D⟩
    case round =>
     clear H'
     obtain ⟨I, B, rfl, HA, HK1, Z, L, W, A, HB⟩ := hrel; cases gk with
     | zero => exact absurd HA.out (by simp [canon_Classes.l0])
     | succ k1 =>
      have H := HA.out; clear HA; simp only [canon_Classes.l0] at H
      by_cases ag : B < (z.length : Int)
      ·rw [if_pos ag] at H; have aT := dT ag; clear ag
       by_cases aB : 0 ≤ B
       ·rw [if_pos aB] at H; have bE := dT aB; clear aB
        by_cases aC : B < (z.length : Int)
        ·rw [if_pos aC] at H; have bF := dT aC; clear aC; replace H := Option.bind_eq_some_iff.mp H; obtain ⟨ap, aH, H⟩ := H; have bC := aM aH; clear aH
         by_cases aD : B < (I.length : Int)
         ·rw [if_pos aD] at H; have bG := dT aD; clear aD; obtain ⟨aI, ad⟩ : ∃ y_ : List Int, y_ = (I.set (B : Int).toNat ap) := ⟨_, rfl⟩
          first | replace H := rI ad H | rw [← ad] at H
          have aU := aM ad; clear ad; have H' := aM H; clear H; have ar : 0 ≤ (B : Int) := oT aO; have au : B < (z.length : Int) := oT aO; obtain ⟨Y, bd, bk⟩ := Kd.at_int (rR W).2.2 B ar au; cases bd; replace ar := eq_true ar; replace au := eq_true au
          go_wp2_with (first | ((with_reducible refine gate_callee (f := 63) rfl ?_); refine gL_ (some 30) Try.func63 #[.slice (some Y) z.length J, .int .i64 (rd z B)] ?_; (with_reducible refine (slices_Index_int_int.calls k1 _ _ z (rd z B) ap _ ?s1 (rR Z).2.1 bC.out).mono ?_); (case s1 => exact cO (rR Z).2.2); rintro e w' ⟨rfl, ⟨nd, rfl⟩⟩; refine ⟨_, rfl, ?_⟩; (try (rw [drewN_self wr]; generalize hq_ : World.drewN wr _ = wr; have aZ : Aside0 (Kd.R (Kd.int .i64) 3 wr w.heap.size (fun k_ => some k_ ≠ (ab : Value).ownBlock) (.slice (some Y) z.length J) z) := ⟨by rw [← hq_]; exact (rP W)⟩; have a3 : Aside0 (Kd.R (Kd.int .i64) 3 wr w.heap.size (fun k_ => some k_ ≠ (ab : Value).ownBlock) (.slice (some Y) z.length J) z) := ⟨by rw [← hq_]; exact (rP Z)⟩; have a4 : Aside0 (Kd.R (Kd.int .i64) 3 wr w.heap.size (fun k_ => some k_ ≠ (.slice (some Y) z.length J : Value).ownBlock ∧ some k_ ≠ (.slice (some Y) z.length J : Value).ownBlock) ab I) := ⟨by rw [← hq_]; exact (by (with_reducible repeat (first | apply Kd.R_alloc | apply Kd.R_drewN | apply Kd.R_drew)); exact Kd.R_mono L.out (fun _ hk => ⟨hk.2, hk.1⟩))⟩; have a5 : Aside0 (wr.heap[an]? = some (.cells #[.slice M E.length O, .slice P F.length Q, .slice U G.length V] 31 (0, 0))) := ⟨by rw [← hq_]; exact (kO A.out)⟩; have a6 : BA w wr := ⟨by rw [← hq_]; exact (bP1 HB D)⟩; clear W Z L A HB hq_; have W := aZ; have Z := a3; have L := a4; have A := a5; have HB := a6; clear aZ a3 a4 a5 a6)); have aJ : 0 ≤ (B : Int) := oT aO; have aK : (B : Int) < ((I.length : Int) : Int) := oT aO; obtain ⟨go20, af, aL, aN, gl20, cl20, HG20⟩ := Kd.R_form L.out (by omega); (first | cases aL | (injection aL with ea_ en_ ec_; (first | subst ea_ | (injection ea_ with ea_; subst ea_)); subst ec_; clear en_)); have GB20 := aM aN; have GG20 := aM HG20; clear aN gl20 HG20; obtain ⟨bD, hf20_0⟩ := Kd.R_celln 0 L.out (B : Int) aJ aK; replace aJ := eq_true aJ; replace aK := eq_true aK; obtain ⟨bH, bI⟩ := Kd.R_celln 0 L.out (B : Int) (oT aO) (oT aO); have HP21 := Kd.R_putg L.out (B : Int) ap) | ((with_reducible refine gate_store (t := 3) (p := 31) rfl ?_); refine store_event (t := 3) (p := 31) (v := ?vo_w22) (w1 := (wr.setCell ⟨go20, (B : Int).toNat, none⟩ (.int .i64 ap))) ?hg ?ho ?hn ?hr ?_; (case ho => rfl); (case hg => rfl); (case hn => rfl); (case hr => first | (go_simp; done) | (go_simp; rfl)); intro aP hw; have hg : wr.grownBy aP (some go20) := (by rw [hw]; exact HP21.2); have hp_ : Kd.R (Kd.int .i64) 3 aP w.heap.size (fun k_ => some k_ ≠ (.slice (some Y) z.length J : Value).ownBlock ∧ some k_ ≠ (.slice (some Y) z.length J : Value).ownBlock) (.slice (some ⟨go20, 0, none⟩) I.length af) aI := (by rw [hw, aU.out]; exact HP21.1); clear HP21; replace Z := aM (Kd.R_after (v := (.slice (some ⟨go20, 0, none⟩) I.length af)) (v1 := (.slice (some ⟨go20, 0, none⟩) I.length af)) (ok := (fun _ => True)) (by (with_reducible repeat (first | apply Kd.R_alloc | apply Kd.R_drewN | apply Kd.R_drew)); exact Kd.R_mono Z.out (fun _ hk => ⟨trivial, hk⟩)) hg (.inl rfl)); replace W := aM (Kd.R_after (v := (.slice (some ⟨go20, 0, none⟩) I.length af)) (v1 := (.slice (some ⟨go20, 0, none⟩) I.length af)) (ok := (fun _ => True)) (by (with_reducible repeat (first | apply Kd.R_alloc | apply Kd.R_drewN | apply Kd.R_drew)); exact Kd.R_mono W.out (fun _ hk => ⟨trivial, hk⟩)) hg (.inl rfl)); replace A := kG A hg L; replace L := aM (hp_); replace HB := aM ((by rw [hw]; exact below_set (HB.out) GB20.out : Below w.heap.size w aP)); clear hg hw hp_))
          go_roundg k1
          case measure => have := HK1.out; omega
          case rel => exact ⟨(aI), (wrap64 (B + 1)), sI, H', ⟨by have := HK1.out; omega⟩, ⟨rM Z (fun _ hk => hk.2)⟩, rQ L, ⟨rM W (fun _ hk => hk.2)⟩, kQ A, bT1 HB D⟩
         ·exact nX aD H
        ·exact nX aC H
       ·exact nX aB H
      ·rw [if_neg ag] at H; have aT := decide_eq_false ag; clear ag; simp only [Option.some.injEq, Prod.mk.injEq] at H; obtain ⟨rfl, rfl⟩ := H
       go_wp2
       go_ret2
       exact ⟨_, eW, rM L (fun _ hk => trivial), bS1 HB.out D.out⟩
   ·exact nX c6 H
  ·exact nX c5 H
 ·rw [if_neg c3] at H; obtain ⟨a9, ba⟩ := bn c3; simp only [Option.some.injEq, Prod.mk.injEq] at H; obtain ⟨rfl, rfl⟩ := H
  go_enter Try.func37, Try.ntmps37
  go_wp2_with (first | ((with_reducible refine gate_dst (N := 1) rfl ?_); refine be_ (cs := #[.slice M E.length O, .slice P F.length Q, .slice U G.length V]) (t := 31) ?_; intro an hg bR hbox hb; have A := aM (hbox); have aR := gE hg (bP0 HB); have D := gE hg (bP0 HB); replace HB := hS0 HB hb; clear hb hbox hg; obtain ⟨bl, bm, bo, bp, br, bs⟩ := bG3 A) | ((with_reducible refine gate_callee (f := 61) rfl ?_); refine gL_ (some 10) Try.func61 #[.agg #[.slice M E.length O, .slice P F.length Q, .slice U G.length V]] ?_; (with_reducible refine (table_Right.calls k _ _ E _ _ F _ _ G aq _ ?s1 ai.out ?s3 ak.out ?s5 am.out A2.out).mono ?_); (case s1 => exact cB ah HB); (case s3 => exact cB aj HB); (case s5 => exact cB al HB); rintro e bS ⟨rfl, hb⟩; refine ⟨_, rfl, ?_⟩; replace A := kB A hb; replace HB := hS1 HB D hb; (try clear hb)))
  go_ret2
  exact ⟨_, eW, by first | exact Kd.R_nil _ _ _ _ _ | exact Kd.N_nil _ _ _ _ _ | exact Kd.V_nil _ _ _ _ _ | exact Kd.Q_nil _ _ _ _ _ | exact Kd.S_nil _ _ _ _ _, bS1 HB.out D.out⟩

end Go.Proofs.Ythgoonohpfoagaa.X
