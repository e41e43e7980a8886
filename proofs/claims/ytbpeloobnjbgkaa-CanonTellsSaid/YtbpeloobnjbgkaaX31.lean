/- What the functions of this seat compute, and that the program's calls come to just that: written by this session's own program out of the translation; no condition. -/
import Derived.Test.YtbpeloobnjbgkaaX0
import Derived.Test.YtbpeloobnjbgkaaX16
namespace Go.Proofs.Ytbpeloobnjbgkaa.X
open Go.RowKit Go.Proofs.YtbpeloobnjbgkaaW.PrintWords Go.Proofs.YtbpeloobnjbgkaaW.PrintLast Go.Proofs.YtbpeloobnjbgkaaW.PrintMore
attribute [local go_sem] max2_int min2_int max_two min_two max_three min_three max_four min_four
set_option linter.unusedVariables false
set_option linter.unusedSimpArgs false
set_option maxHeartbeats 8000000
set_option maxRecDepth 100000

/-! ### canon_Sound: function 23 -/
mutual
def canon_Sound.j0 : Nat → Bool → List ByteArray → List Bool → List (List Int) → Option (Bool)
 | 0, _, _, _, _ => none
 | k + 1, x21, x455000, x455001, x455002 => if x21 = true then (some false) else (canon_Sound.l0 k x455002 (x455002.length : Int) 0 x455000 x455001 x455002)
def canon_Sound.l0 : Nat → List (List Int) → Int → Int → List ByteArray → List Bool → List (List Int) → Option (Bool)
 | 0, _, _, _, _, _, _ => none
 | k + 1, x23, x24, x25, x455000, x455001, x455002 => if x25 < x24 then (if 0 ≤ x25 then (if x25 < (x23.length : Int) then (canon_Sound.l1 k x23 x24 x25 (rd_L1 x23 x25) ((rd_L1 x23 x25).length : Int) 0 x455000 x455001 x455002) else (none)) else (none)) else (some true)
def canon_Sound.l1 : Nat → List (List Int) → Int → Int → List Int → Int → Int → List ByteArray → List Bool → List (List Int) → Option (Bool)
 | 0, _, _, _, _, _, _, _, _, _ => none
 | k + 1, x23, x24, x25, x29, x30, x31, x455000, x455001, x455002 => if x31 < x30 then (if 0 ≤ x31 then (if x31 < (x29.length : Int) then (if 0 ≤ (rd x29 x31) then (if (rd x29 x31) < (x455001.length : Int) then (if (rd x29 x31) < (x455002.length : Int) then (if x31 < ((rd_L1 x455002 (rd x29 x31)).length : Int) then (if 0 ≤ (rd (rd_L1 x455002 (rd x29 x31)) x31) then (if (rd (rd_L1 x455002 (rd x29 x31)) x31) < (x455001.length : Int) then (if ((rdOf false x455001 (rd x29 x31)) != (rdOf false x455001 (rd (rd_L1 x455002 (rd x29 x31)) x31))) = true then (some false) else (canon_Sound.l1 k x23 x24 x25 x29 x30 (wrap64 (x31 + 1)) x455000 x455001 x455002)) else (none)) else (none)) else (none)) else (none)) else (none)) else (none)) else (none)) else (none)) else (canon_Sound.l0 k x23 x24 (wrap64 (x25 + 1)) x455000 x455001 x455002)
end
def canon_Sound.f (k : Nat) (l0_0 : List ByteArray) (l0_1 : List Bool) (l0_2 : List (List Int)) : Option (Bool) := (canon_Minimal.f k l0_0 l0_1 l0_2).bind fun bt444 => (if bt444.2.2.2 = 0 then (if 0 < (bt444.2.1.length : Int) then (canon_Sound.j0 k (rdOf false bt444.2.1 0) bt444.1 bt444.2.1 bt444.2.2.1) else (none)) else (canon_Sound.j0 k true bt444.1 bt444.2.1 bt444.2.2.1))
theorem canon_Sound.mono_l : ∀ k, (∀ y0 y1 y2 y3, LeO (canon_Sound.j0 k y0 y1 y2 y3) (canon_Sound.j0 (k + 1) y0 y1 y2 y3)) ∧ (∀ y0 y1 y2 y3 y4 y5, LeO (canon_Sound.l0 k y0 y1 y2 y3 y4 y5) (canon_Sound.l0 (k + 1) y0 y1 y2 y3 y4 y5)) ∧ (∀ y0 y1 y2 y3 y4 y5 y6 y7 y8, LeO (canon_Sound.l1 k y0 y1 y2 y3 y4 y5 y6 y7 y8) (canon_Sound.l1 (k + 1) y0 y1 y2 y3 y4 y5 y6 y7 y8))
 | 0 => ⟨fun _ _ _ _ r h => by simp [canon_Sound.j0] at h, fun _ _ _ _ _ _ r h => by simp [canon_Sound.l0] at h, fun _ _ _ _ _ _ _ _ _ r h => by simp [canon_Sound.l1] at h⟩
 | k + 1 => by
  obtain ⟨ih0, ih1, ih2⟩ := canon_Sound.mono_l k; refine ⟨?_, ?_, ?_⟩
  ·intro y0 y1 y2 y3
   unfold canon_Sound.j0
   repeat' first | (with_reducible first | exact ih0 _ _ _ _ | exact ih1 _ _ _ _ _ _ | exact ih2 _ _ _ _ _ _ _ _ _ | exact canon_Minimal.mono _ _ _ _ | exact lA | apply lI | refine lB ?_ fun _ => ?_) | exact lN _ | apply lI | refine lB ?_ fun _ => ?_
  ·intro y0 y1 y2 y3 y4 y5
   unfold canon_Sound.l0
   repeat' first | (with_reducible first | exact ih0 _ _ _ _ | exact ih1 _ _ _ _ _ _ | exact ih2 _ _ _ _ _ _ _ _ _ | exact canon_Minimal.mono _ _ _ _ | exact lA | apply lI | refine lB ?_ fun _ => ?_) | exact lN _ | apply lI | refine lB ?_ fun _ => ?_
  ·intro y0 y1 y2 y3 y4 y5 y6 y7 y8
   unfold canon_Sound.l1
   repeat' first | (with_reducible first | exact ih0 _ _ _ _ | exact ih1 _ _ _ _ _ _ | exact ih2 _ _ _ _ _ _ _ _ _ | exact canon_Minimal.mono _ _ _ _ | exact lA | apply lI | refine lB ?_ fun _ => ?_) | exact lN _ | apply lI | refine lB ?_ fun _ => ?_
theorem canon_Sound.mono : ∀ a0 a1 a2 k, LeO (canon_Sound.f k a0 a1 a2) (canon_Sound.f (k + 1) a0 a1 a2) := by
 intro a0 a1 a2 k; obtain ⟨ih0, ih1, ih2⟩ := canon_Sound.mono_l k
 unfold canon_Sound.f
 repeat' first | (with_reducible first | exact ih0 _ _ _ _ | exact ih1 _ _ _ _ _ _ | exact ih2 _ _ _ _ _ _ _ _ _ | exact canon_Minimal.mono _ _ _ _ | exact lA | apply lI | refine lB ?_ fun _ => ?_) | exact lN _ | apply lI | refine lB ?_ fun _ => ?_
theorem canon_Sound.calls (k : Nat) (aq : Option Addr) (ar : Nat) (aa : List ByteArray) (au : Option Addr) (av : Nat) (ab : List Bool) (aw : Option Addr) (ax : Nat) (ac : List (List Int)) (r : Bool) (w : World) (bJ : Kd.C Kd.string w aq aa.length aa) (bK : aa.length ≤ ar) (bL : Kd.C Kd.bool w au ab.length ab) (bM : ab.length ≤ av) (bN : Kd.C (Kd.slice 3 (Kd.int .i64)) w aw ac.length ac) (bO : ac.length ≤ ax) (h : canon_Sound.f k aa ab ac = some r) :
  Calls Try.prog 23 #[.agg #[.slice aq aa.length ar, .slice au ab.length av, .slice aw ac.length ax]] w fun e w' => e = .returned (.bool r) ∧ Below w.heap.size w w' := by
 have hu26 := Try.underlying26; have bf := aM bJ; have bg := aM bK; clear bJ bK; have bh := aM bL; have bi := aM bM; clear bL bM; have bj := aM bN; have bk := aM bO; clear bN bO; have HB := aM (Below.refl w.heap.size w); rw [canon_Sound.f] at h; have H := h; clear h; replace H := Option.bind_eq_some_iff.mp H; obtain ⟨⟨Q, D, z, aW⟩, cp, H⟩ := H; replace H : (if aW = 0 then (if 0 < (D.length : Int) then (canon_Sound.j0 k (rdOf false D 0) Q D z) else (none)) else (canon_Sound.j0 k true Q D z)) = some r := H; have A2 := aM cp; clear cp; have b8 := aM H; clear H
 go_enter Try.func23, Try.ntmps23
 go_upto_region 2 with (first | ((with_reducible refine gate_dst (N := 1) rfl ?_); refine be_ (cs := #[.slice aq aa.length ar, .slice au ab.length av, .slice aw ac.length ax]) (t := 26) ?_; intro aL hg w4 aX hb; have E := aM (aX); have bP := gE hg (bP0 HB); have F := gE hg (bP0 HB); replace HB := hS0 HB hb; clear hb aX hg; obtain ⟨bs, bt, bu, bv, bw, bx⟩ := bG3 E) | (go_at_call 17; (with_reducible refine (canon_Minimal.calls k _ _ aa _ _ ab _ _ ac Q D z aW _ ?s1 bg.out ?s3 bi.out ?s5 bk.out A2.out).mono ?_); (case s1 => exact cB bf HB); (case s3 => exact cB bh HB); (case s5 => exact cB bj HB); rintro e w6 ⟨b9, ca, cb, rfl, aS, aT, aU, hb⟩; have V := rW aS (bP1 HB F); have M := rW aT (bP1 HB F); have W := aM (Kd.S_lower aU (below_size (bP1 HB F))); replace E := kB E hb; replace HB := hS1 HB F hb; (try clear hb); (try clear aS); (try clear aT); (try clear aU)) | ((with_reducible refine gate_dst (N := 3) rfl ?_); refine be_ (cs := #[.slice none 0 0, .slice none 0 0, .slice none 0 0]) (t := 26) ?_; intro U hg w7 aX hb; replace V := rB V hb; replace M := rB M hb; replace W := aM (Kd.S_below (by (with_reducible repeat (first | apply Kd.S_alloc | apply Kd.S_drewN | apply Kd.S_drew)); exact W.out) hb); have G := aM (aX); have bQ := gE hg (bP1 HB F); have ad := gE hg (bP1 HB F); replace HB := hS1 HB F hb; have J := nL hg E; have O := nG hg E; replace E := kB E hb; clear hb aX hg; obtain ⟨aB, aC, rfl⟩ := sL V; have cc := O.out; have cd := J.out; obtain ⟨aZ, a3, a4, a5, a6, a7⟩ := bG3 G; obtain ⟨ay, ag, rfl⟩ := sL M; obtain ⟨am, af, aY⟩ := Kd.S_slice W.out; subst aY))
 repeat (go_quiet (first | ((with_reducible refine gate_dst (N := 1) rfl ?_); refine be_ (cs := #[.slice aq aa.length ar, .slice au ab.length av, .slice aw ac.length ax]) (t := 26) ?_; intro aL hg w4 aX hb; have E := aM (aX); have bP := gE hg (bP0 HB); have F := gE hg (bP0 HB); replace HB := hS0 HB hb; clear hb aX hg; obtain ⟨bs, bt, bu, bv, bw, bx⟩ := bG3 E) | (go_at_call 17; (with_reducible refine (canon_Minimal.calls k _ _ aa _ _ ab _ _ ac Q D z aW _ ?s1 bg.out ?s3 bi.out ?s5 bk.out A2.out).mono ?_); (case s1 => exact cB bf HB); (case s3 => exact cB bh HB); (case s5 => exact cB bj HB); rintro e w6 ⟨b9, ca, cb, rfl, aS, aT, aU, hb⟩; have V := rW aS (bP1 HB F); have M := rW aT (bP1 HB F); have W := aM (Kd.S_lower aU (below_size (bP1 HB F))); replace E := kB E hb; replace HB := hS1 HB F hb; (try clear hb); (try clear aS); (try clear aT); (try clear aU)) | ((with_reducible refine gate_dst (N := 3) rfl ?_); refine be_ (cs := #[.slice none 0 0, .slice none 0 0, .slice none 0 0]) (t := 26) ?_; intro U hg w7 aX hb; replace V := rB V hb; replace M := rB M hb; replace W := aM (Kd.S_below (by (with_reducible repeat (first | apply Kd.S_alloc | apply Kd.S_drewN | apply Kd.S_drew)); exact W.out) hb); have G := aM (aX); have bQ := gE hg (bP1 HB F); have ad := gE hg (bP1 HB F); replace HB := hS1 HB F hb; have J := nL hg E; have O := nG hg E; replace E := kB E hb; clear hb aX hg; obtain ⟨aB, aC, rfl⟩ := sL V; have cc := O.out; have cd := J.out; obtain ⟨aZ, a3, a4, a5, a6, a7⟩ := bG3 G; obtain ⟨ay, ag, rfl⟩ := sL M; obtain ⟨am, af, aY⟩ := Kd.S_slice W.out; subst aY)); go_upto_region 2 with (first | ((with_reducible refine gate_dst (N := 1) rfl ?_); refine be_ (cs := #[.slice aq aa.length ar, .slice au ab.length av, .slice aw ac.length ax]) (t := 26) ?_; intro aL hg w4 aX hb; have E := aM (aX); have bP := gE hg (bP0 HB); have F := gE hg (bP0 HB); replace HB := hS0 HB hb; clear hb aX hg; obtain ⟨bs, bt, bu, bv, bw, bx⟩ := bG3 E) | (go_at_call 17; (with_reducible refine (canon_Minimal.calls k _ _ aa _ _ ab _ _ ac Q D z aW _ ?s1 bg.out ?s3 bi.out ?s5 bk.out A2.out).mono ?_); (case s1 => exact cB bf HB); (case s3 => exact cB bh HB); (case s5 => exact cB bj HB); rintro e w6 ⟨b9, ca, cb, rfl, aS, aT, aU, hb⟩; have V := rW aS (bP1 HB F); have M := rW aT (bP1 HB F); have W := aM (Kd.S_lower aU (below_size (bP1 HB F))); replace E := kB E hb; replace HB := hS1 HB F hb; (try clear hb); (try clear aS); (try clear aT); (try clear aU)) | ((with_reducible refine gate_dst (N := 3) rfl ?_); refine be_ (cs := #[.slice none 0 0, .slice none 0 0, .slice none 0 0]) (t := 26) ?_; intro U hg w7 aX hb; replace V := rB V hb; replace M := rB M hb; replace W := aM (Kd.S_below (by (with_reducible repeat (first | apply Kd.S_alloc | apply Kd.S_drewN | apply Kd.S_drew)); exact W.out) hb); have G := aM (aX); have bQ := gE hg (bP1 HB F); have ad := gE hg (bP1 HB F); replace HB := hS1 HB F hb; have J := nL hg E; have O := nG hg E; replace E := kB E hb; clear hb aX hg; obtain ⟨aB, aC, rfl⟩ := sL V; have cc := O.out; have cd := J.out; obtain ⟨aZ, a3, a4, a5, a6, a7⟩ := bG3 G; obtain ⟨ay, ag, rfl⟩ := sL M; obtain ⟨am, af, aY⟩ := Kd.S_slice W.out; subst aY)))
 (try simp only [Act.put, sA, sB, sC])
 go_cut [21] (fun c0 wc => ∃ (kq : Nat) (aV : Bool), c0 = .bool aV ∧ Aside0 (canon_Sound.j0 kq aV Q D z = some r) ∧ Aside0 (kq ≤ k) ∧ RA Kd.string 9 wc w (.slice aB Q.length aC) Q ∧ RA Kd.bool 4 wc w (.slice ay D.length ag) D ∧ Aside0 (Kd.S (Kd.slice 3 (Kd.int .i64)) 28 wc w.heap.size (fun _ => True) (.slice am z.length af) z) ∧ Aside0 (wc.heap[aL]? = some (.cells #[(.slice aq aa.length ar), (.slice au ab.length av), (.slice aw ac.length ax)] 26 (0, 0))) ∧ Aside0 (wc.heap[U]? = some (.cells #[(.slice aB Q.length aC), (.slice ay D.length ag), (.slice am z.length af)] 26 (0, 0))) ∧ BA w wc)
 case first =>
  have H := b8.out; clear b8
  apply iB H <;> clear H <;> intro bA H
  ·obtain ⟨aN, ch⟩ := bq bA; clear bA
   (first | rw [aN] | (simp only [i64_w, i32_w]; rw [aN]) | skip)
   apply iN H; clear H; intro bR H; have c4 := dT bR; have c5 : decide (0 < D.length) = true := dT (by omega); clear bR; have H' := aM H; clear H; have c6 := O.out; have c7 := J.out; obtain ⟨cw, cx, cy, cz, cA, cC⟩ := bG3 G; have bC : 0 ≤ (0 : Int) := (by omega); have bD : 0 < (D.length : Int) := oT aO; obtain ⟨aP, cu, Y⟩ := Kd.at_bool (rR M).2.2 0 bC bD; cases cu; have qi455 : (0 < D.length) = True := eq_true (by omega)
   (try rw [show ((0 : Int)).toNat = 0 from rfl] at Y)
   (try rw [Addr.add_zero'] at Y)
   have a8 : aP.block ≠ U := Kd.own_blk (Kd.R_ne M.out G.out (by decide)); have a9 : aP.block ≠ U := Kd.own_blk (Kd.R_ne M.out G.out (by decide)); have ba : aP.block ≠ U := Kd.own_blk (Kd.R_ne M.out G.out (by decide)); replace Y := (cell_far (p := ⟨U, 0, none⟩) (nO a8) (.slice aB Q.length aC)).trans Y; replace Y := (cell_far (p := ⟨U, 1, none⟩) (nO a9) (.slice (some aP) D.length ag)).trans Y; replace Y := (cell_far (p := ⟨U, 2, none⟩) (nO ba) (.slice am z.length af)).trans Y
   (try have cD := fun (n_ : Nat) => (show (((((w7.drewN n_).setCell ⟨U, 0, none⟩ (.slice aB Q.length aC)).setCell ⟨U, 1, none⟩ (.slice (some aP) D.length ag)).setCell ⟨U, 2, none⟩ (.slice am z.length af))).cell? _ = some _ from Y))
   clear a8; clear a9; clear ba; replace bC := eq_true bC; replace bD := eq_true bD
   go_wp2
   repeat (go_quiet (fail); try go_wp2)
   go_meet
   case rel => exact ⟨_, (rdOf false D 0), sI, H', lE, ⟨rZ V G⟩, ⟨rZ M G⟩, ⟨sZ W G⟩, ⟨kN E J⟩, ⟨by (with_reducible repeat (first | refine blk_drewN ?_ _ | refine blk_drew ?_ | refine blk_alloc ?_ _)); exact blk_put (blk_put (blk_put G.out 0 _ rfl) 1 _ rfl) 2 _ rfl⟩, bT2 HB F ad⟩
  ·obtain ⟨aN, ch⟩ := bn bA
   (first | rw [aN] | (simp only [i64_w, i32_w]; rw [aN]) | skip)
   have H' := aM H; clear H
   go_wp2
   repeat (go_quiet (fail); try go_wp2)
   go_meet
   case rel => exact ⟨_, (true), sI, H', lE, ⟨rZ V G⟩, ⟨rZ M G⟩, ⟨sZ W G⟩, ⟨kN E J⟩, ⟨by (with_reducible repeat (first | refine blk_drewN ?_ _ | refine blk_drew ?_ | refine blk_alloc ?_ _)); exact blk_put (blk_put (blk_put G.out 0 _ rfl) 1 _ rfl) 2 _ rfl⟩, bT2 HB F ad⟩
 case rest =>
  clear b8
  obtain ⟨kq, aV, rfl, HA, HJ2, Z, L, I, E, G, HB⟩ := hcut; cases kq with
  | zero => exact absurd HA.out (by simp [canon_Sound.j0])
  | succ cq =>
   have H := HA.out; clear HA; simp only [canon_Sound.j0] at H
   by_cases bS : aV = true
   ·subst bS
    rw [if_pos rfl] at H; obtain rfl := Option.some.inj H
    go_wp2
    repeat (go_quiet (fail); try go_wp2)
    go_ret
    exact ⟨eW, bS2 HB.out F.out ad.out⟩
   ·replace bS := Bool.eq_false_iff.mpr bS; subst bS
    rw [if_neg nF] at H; have H' := aM H; clear H; have c8 := O.out; have c9 := J.out; obtain ⟨cE, cF, cG, cH, cI, cJ⟩ := bG3 G
    go_wp2
    repeat (go_quiet (fail); try go_wp2)
    go_loopg [25] cq (fun kq c1 w' => ∃ (B : Int), c1 = .int .i64 B ∧ Aside0 (canon_Sound.l0 kq z (z.length : Int) B Q D z = some r) ∧ Aside0 (kq ≤ cq) ∧ Aside0 (Kd.S (Kd.slice 3 (Kd.int .i64)) 28 w' w.heap.size (fun _ => True) (.slice am z.length af) z) ∧ RA Kd.string 9 w' w (.slice aB Q.length aC) Q ∧ RA Kd.bool 4 w' w (.slice ay D.length ag) D ∧ Aside0 (Kd.S (Kd.slice 3 (Kd.int .i64)) 28 w' w.heap.size (fun _ => True) (.slice am z.length af) z) ∧ Aside0 (w'.heap[aL]? = some (.cells #[(.slice aq aa.length ar), (.slice au ab.length av), (.slice aw ac.length ax)] 26 (0, 0))) ∧ Aside0 (w'.heap[U]? = some (.cells #[(.slice aB Q.length aC), (.slice ay D.length ag), (.slice am z.length af)] 26 (0, 0))) ∧ BA w w')
    case atStart => exact ⟨(0), sI, H', ⟨Nat.le_refl _⟩, ⟨by (with_reducible repeat (first | apply Kd.S_alloc | apply Kd.S_drewN | apply Kd.S_drew)); exact I.out⟩, rQ Z, rQ L, ⟨by (with_reducible repeat (first | apply Kd.S_alloc | apply Kd.S_drewN | apply Kd.S_drew)); exact I.out⟩, kQ E, kQ G, bT2 HB F ad⟩
    case round =>
     clear H'
     obtain ⟨B, rfl, HA, ct, an, Z, L, I, E, G, HB⟩ := hrel; cases gk with
     | zero => exact absurd HA.out (by simp [canon_Sound.l0])
     | succ k2 =>
      have H := HA.out; clear HA; simp only [canon_Sound.l0] at H
      apply iB H <;> clear H <;> intro bb H
      ·have ci := dT bb; clear bb
       apply iN H; clear H; intro bT H; have da := dT bT; clear bT
       apply iN H; clear H; intro bU H; have db := dT bU; clear bU; have H' := aM H; clear H; have bl : 0 ≤ (B : Int) := oT aO; have bm : B < (z.length : Int) := oT aO; obtain ⟨aQ, ce, c2, cv, b3, bc, bd⟩ := at_L1 (Kd.S_reads' an.out).2.2 B bl bm; cases cv; obtain ⟨ce456, hce456, hMe456, bB⟩ := Kd.S_get an.out [] B bl (by first | exact bm | exact oT aO | (have e_ := (Kd.S_reads' an.out).1; omega)); obtain ⟨ve456_0, rfl, ge456_0⟩ := hMe456; have ah := bB 0 _ rfl; rw [Nat.add_zero, show ((Kd.slice 3 (Kd.int .i64))).sz = 1 from rfl, Nat.mul_one] at ah; replace ah := Option.some.inj (ah.symm.trans b3); rw [ah] at ge456_0; have HL456_0 := aM (show Kd.R (Kd.int .i64) 3 _ _ _ _ (rd_L1 z B) from ge456_0); clear ah ge456_0; clear bB hce456; have ae := aM bd; have cK := aM bc; clear bd bc; replace bl := eq_true bl; replace bm := eq_true bm
       go_wp2
       repeat (go_quiet (fail); try go_wp2)
       go_loopg [31] k2 (fun kq c3 w' => ∃ (A : Int), c3 = .int .i64 A ∧ Aside0 (canon_Sound.l1 kq z (z.length : Int) B (rd_L1 z B) ((rd_L1 z B).length : Int) A Q D z = some r) ∧ Aside0 (kq ≤ k2) ∧ Aside0 (Kd.S (Kd.slice 3 (Kd.int .i64)) 28 w' w.heap.size (fun _ => True) (.slice (some aQ) z.length af) z) ∧ RA Kd.string 9 w' w (.slice aB Q.length aC) Q ∧ RA Kd.bool 4 w' w (.slice ay D.length ag) D ∧ Aside0 (Kd.S (Kd.slice 3 (Kd.int .i64)) 28 w' w.heap.size (fun _ => True) (.slice (some aQ) z.length af) z) ∧ Aside0 (w'.heap[aL]? = some (.cells #[(.slice aq aa.length ar), (.slice au ab.length av), (.slice aw ac.length ax)] 26 (0, 0))) ∧ Aside0 (w'.heap[U]? = some (.cells #[(.slice aB Q.length aC), (.slice ay D.length ag), (.slice (some aQ) z.length af)] 26 (0, 0))) ∧ Aside0 (Kd.C (Kd.int .i64) w' ce (rd_L1 z B).length (rd_L1 z B)) ∧ BA w w')
       case atStart => exact ⟨(0), sI, H', ⟨Nat.le_refl _⟩, ⟨by (with_reducible repeat (first | apply Kd.S_alloc | apply Kd.S_drewN | apply Kd.S_drew)); exact an.out⟩, rQ Z, rQ L, ⟨by (with_reducible repeat (first | apply Kd.S_alloc | apply Kd.S_drewN | apply Kd.S_drew)); exact I.out⟩, kQ E, kQ G, ⟨by repeat (first | (with_reducible exact ae.out) | (with_reducible refine Kd.C_alloc ?_ _) | (with_reducible refine Kd.C_drewN ?_ _) | (with_reducible refine Kd.C_drew ?_) | exact ae.out)⟩, bT2 HB F ad⟩
       case round =>
        clear H'
        obtain ⟨A, rfl, HA, cY, an, Z, L, I, E, G, ae, HB⟩ := hrel; cases gk with
        | zero => exact absurd HA.out (by simp [canon_Sound.l1])
        | succ k3 =>
         have H := HA.out; clear HA; simp only [canon_Sound.l1] at H
         apply iB H <;> clear H <;> intro be H
         ·have cj := dT be; clear be
          apply iN H; clear H; intro bV H; have dc := dT bV; clear bV
          apply iN H; clear H; intro bW H; have dd := dT bW; clear bW
          apply iN H; clear H; intro bX H; have de := dT bX; clear bX
          apply iN H; clear H; intro bY H; have df := dT bY; clear bY
          apply iN H; clear H; intro bZ H; have dg := dT bZ; clear bZ
          apply iN H; clear H; intro b0 H; have dh := dT b0; clear b0
          apply iN H; clear H; intro b1 H; have di := dT b1; clear b1
          apply iN H; clear H; intro b2 H; have dj := dT b2; clear b2
          apply iB H <;> clear H <;> intro az H
          ·have ck : ((rdOf false D (rd (rd_L1 z B) A)) != (rdOf false D (rd (rd_L1 z (rd (rd_L1 z B) A)) A))) = true := az
           (try (have cl : decide ((rdOf false D (rd (rd_L1 z B) A)) = (rdOf false D (rd (rd_L1 z (rd (rd_L1 z B) A)) A))) = false := by simpa using az))
           (try (have cm : ((rdOf false D (rd (rd_L1 z B) A)) == (rdOf false D (rd (rd_L1 z (rd (rd_L1 z B) A)) A))) = false := by simpa using az))
           (try (have dk : ¬ ((rdOf false D (rd (rd_L1 z B) A)) = (rdOf false D (rd (rd_L1 z (rd (rd_L1 z B) A)) A))) := by simpa using az))
           clear az; obtain rfl := Option.some.inj H; obtain ⟨⟨cn, bE, ai⟩, aD, aE⟩ := xAt (Kd.at_int ae.out) A; cases bE; have dl := O.out; have dm := J.out; obtain ⟨cL, cM, cN, cO, cP, cQ⟩ := bG3 G; obtain ⟨⟨bo, bF, b4⟩, aF, aG⟩ := xAt (Kd.at_bool (rR L).2.2) (rd (rd_L1 z B) A); cases bF; have ao : 0 ≤ ((rd (rd_L1 z B) A) : Int) := oT aO; have ap : (rd (rd_L1 z B) A) < (z.length : Int) := oT aO; obtain ⟨bp, cf, cg, bG, aR, aj, ak⟩ := at_L1 (Kd.S_reads' I.out).2.2 (rd (rd_L1 z B) A) ao ap; obtain rfl := sJJ bG; obtain ⟨ce459, hce459, hMe459, aA⟩ := Kd.S_get I.out [] (rd (rd_L1 z B) A) ao (by first | exact ap | exact oT aO | (have e_ := (Kd.S_reads' I.out).1; omega)); obtain ⟨ve459_0, rfl, ge459_0⟩ := hMe459; have P := aA 0 _ rfl; rw [Nat.add_zero, show ((Kd.slice 3 (Kd.int .i64))).sz = 1 from rfl, Nat.mul_one] at P; replace P := Option.some.inj (P.symm.trans aR); rw [P] at ge459_0; have HL459_0 := aM (show Kd.R (Kd.int .i64) 3 _ _ _ _ (rd_L1 z (rd (rd_L1 z B) A)) from ge459_0); clear P ge459_0; clear aA hce459; have al := aM ak; have b5 := aM aj; clear ak aj; replace ao := eq_true ao; replace ap := eq_true ap; have aH : 0 ≤ (A : Int) := oT aO; have aI : A < ((rd_L1 z (rd (rd_L1 z B) A)).length : Int) := oT aO; obtain ⟨co, bH, b6⟩ := Kd.at_int (by repeat (first | (with_reducible exact al.out) | (with_reducible refine Kd.C_alloc ?_ _) | (with_reducible refine Kd.C_drewN ?_ _) | (with_reducible refine Kd.C_drew ?_) | exact al.out)) A aH aI; cases bH; replace aH := eq_true aH; replace aI := eq_true aI; obtain ⟨⟨br, bI, b7⟩, aJ, aK⟩ := xAt (Kd.at_bool (rR L).2.2) (rd (rd_L1 z (rd (rd_L1 z B) A)) A); obtain rfl := sJJ bI
           go_wp2
           repeat (go_quiet (fail); try go_wp2)
           go_ret
           exact ⟨eW, bS2 HB.out F.out ad.out⟩
          ·have ck : ((rdOf false D (rd (rd_L1 z B) A)) != (rdOf false D (rd (rd_L1 z (rd (rd_L1 z B) A)) A))) = false := by simpa using az
           (try (have cl : decide ((rdOf false D (rd (rd_L1 z B) A)) = (rdOf false D (rd (rd_L1 z (rd (rd_L1 z B) A)) A))) = true := by simpa using az))
           (try (have cm : ((rdOf false D (rd (rd_L1 z B) A)) == (rdOf false D (rd (rd_L1 z (rd (rd_L1 z B) A)) A))) = true := by simpa using az))
           clear az; have H' := aM H; clear H; obtain ⟨⟨cn, bE, ai⟩, aD, aE⟩ := xAt (Kd.at_int ae.out) A; cases bE; have dn := O.out; have dp := J.out; obtain ⟨cR, cS, cT, cU, cV, cW⟩ := bG3 G; obtain ⟨⟨bo, bF, b4⟩, aF, aG⟩ := xAt (Kd.at_bool (rR L).2.2) (rd (rd_L1 z B) A); cases bF; have ao : 0 ≤ ((rd (rd_L1 z B) A) : Int) := oT aO; have ap : (rd (rd_L1 z B) A) < (z.length : Int) := oT aO; obtain ⟨bp, cf, cg, bG, aR, aj, ak⟩ := at_L1 (Kd.S_reads' I.out).2.2 (rd (rd_L1 z B) A) ao ap; obtain rfl := sJJ bG; obtain ⟨ce459, hce459, hMe459, aA⟩ := Kd.S_get I.out [] (rd (rd_L1 z B) A) ao (by first | exact ap | exact oT aO | (have e_ := (Kd.S_reads' I.out).1; omega)); obtain ⟨ve459_0, rfl, ge459_0⟩ := hMe459; have P := aA 0 _ rfl; rw [Nat.add_zero, show ((Kd.slice 3 (Kd.int .i64))).sz = 1 from rfl, Nat.mul_one] at P; replace P := Option.some.inj (P.symm.trans aR); rw [P] at ge459_0; have HL459_0 := aM (show Kd.R (Kd.int .i64) 3 _ _ _ _ (rd_L1 z (rd (rd_L1 z B) A)) from ge459_0); clear P ge459_0; clear aA hce459; have al := aM ak; have b5 := aM aj; clear ak aj; replace ao := eq_true ao; replace ap := eq_true ap; have aH : 0 ≤ (A : Int) := oT aO; have aI : A < ((rd_L1 z (rd (rd_L1 z B) A)).length : Int) := oT aO; obtain ⟨co, bH, b6⟩ := Kd.at_int (by repeat (first | (with_reducible exact al.out) | (with_reducible refine Kd.C_alloc ?_ _) | (with_reducible refine Kd.C_drewN ?_ _) | (with_reducible refine Kd.C_drew ?_) | exact al.out)) A aH aI; cases bH; replace aH := eq_true aH; replace aI := eq_true aI; obtain ⟨⟨br, bI, b7⟩, aJ, aK⟩ := xAt (Kd.at_bool (rR L).2.2) (rd (rd_L1 z (rd (rd_L1 z B) A)) A); obtain rfl := sJJ bI
           go_wp2
           repeat (go_quiet (fail); try go_wp2)
           go_roundg k3
           case measure => have := HJ2.out; have := ct.out; have := cY.out; omega
           case rel => exact ⟨(wrap64 (A + 1)), sI, H', ⟨by have := HJ2.out; have := ct.out; have := cY.out; omega⟩, ⟨by (with_reducible repeat (first | apply Kd.S_alloc | apply Kd.S_drewN | apply Kd.S_drew)); exact an.out⟩, rQ Z, rQ L, ⟨by (with_reducible repeat (first | apply Kd.S_alloc | apply Kd.S_drewN | apply Kd.S_drew)); exact I.out⟩, kQ E, kQ G, ⟨by repeat (first | (with_reducible exact ae.out) | (with_reducible refine Kd.C_alloc ?_ _) | (with_reducible refine Kd.C_drewN ?_ _) | (with_reducible refine Kd.C_drew ?_) | exact ae.out)⟩, bT2 HB F ad⟩
         ·have cj := decide_eq_false be; clear be; have H' := aM H; clear H
          go_wp2
          repeat (go_quiet (fail); try go_wp2)
          go_roundg k3
          case measure => have := HJ2.out; have := ct.out; have := cY.out; omega
          case rel => exact ⟨(wrap64 (B + 1)), sI, H', ⟨by have := HJ2.out; have := ct.out; have := cY.out; omega⟩, ⟨by (with_reducible repeat (first | apply Kd.S_alloc | apply Kd.S_drewN | apply Kd.S_drew)); exact an.out⟩, rQ Z, rQ L, ⟨by (with_reducible repeat (first | apply Kd.S_alloc | apply Kd.S_drewN | apply Kd.S_drew)); exact I.out⟩, kQ E, kQ G, bT2 HB F ad⟩
      ·have ci := decide_eq_false bb; clear bb; obtain rfl := Option.some.inj H
       go_wp2
       repeat (go_quiet (fail); try go_wp2)
       go_ret
       exact ⟨eW, bS2 HB.out F.out ad.out⟩

end Go.Proofs.Ytbpeloobnjbgkaa.X
