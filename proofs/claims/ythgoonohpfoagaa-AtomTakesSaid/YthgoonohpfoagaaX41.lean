/- What the functions of this seat compute, and that the program's calls come to just that: written by this session's own program out of the translation; no condition. -/
import Derived.Test.YthgoonohpfoagaaX0
import Derived.Test.YthgoonohpfoagaaX40
import Derived.Test.YthgoonohpfoagaaX30
namespace Go.Proofs.Ythgoonohpfoagaa.X
open Go.RowKit Go.Proofs.YthgoonohpfoagaaW.PrintWords Go.Proofs.YthgoonohpfoagaaW.PrintLast Go.Proofs.YthgoonohpfoagaaW.PrintMore
attribute [local go_sem] max2_int min2_int max_two min_two max_three min_three max_four min_four
set_option linter.unusedVariables false
set_option linter.unusedSimpArgs false
set_option maxHeartbeats 8000000
set_option maxRecDepth 100000

/-! ### canon_Sound: function 21 -/
mutual
def canon_Sound.j0 : Nat → Bool → List ByteArray → List Bool → List (List Int) → Option (Bool)
 | 0, _, _, _, _ => none
 | k + 1, x21, x338000, x338001, x338002 => if x21 = true then (some false) else (canon_Sound.l0 k x338002 (x338002.length : Int) 0 x338000 x338001 x338002)
def canon_Sound.l0 : Nat → List (List Int) → Int → Int → List ByteArray → List Bool → List (List Int) → Option (Bool)
 | 0, _, _, _, _, _, _ => none
 | k + 1, x23, x24, x25, x338000, x338001, x338002 => if x25 < x24 then (if 0 ≤ x25 then (if x25 < (x23.length : Int) then (canon_Sound.l1 k x23 x24 x25 (rd_L3 x23 x25) ((rd_L3 x23 x25).length : Int) 0 x338000 x338001 x338002) else (none)) else (none)) else (some true)
def canon_Sound.l1 : Nat → List (List Int) → Int → Int → List Int → Int → Int → List ByteArray → List Bool → List (List Int) → Option (Bool)
 | 0, _, _, _, _, _, _, _, _, _ => none
 | k + 1, x23, x24, x25, x29, x30, x31, x338000, x338001, x338002 => if x31 < x30 then (if 0 ≤ x31 then (if x31 < (x29.length : Int) then (if 0 ≤ (rd x29 x31) then (if (rd x29 x31) < (x338001.length : Int) then (if (rd x29 x31) < (x338002.length : Int) then (if x31 < ((rd_L3 x338002 (rd x29 x31)).length : Int) then (if 0 ≤ (rd (rd_L3 x338002 (rd x29 x31)) x31) then (if (rd (rd_L3 x338002 (rd x29 x31)) x31) < (x338001.length : Int) then (if ((rdOf false x338001 (rd x29 x31)) != (rdOf false x338001 (rd (rd_L3 x338002 (rd x29 x31)) x31))) = true then (some false) else (canon_Sound.l1 k x23 x24 x25 x29 x30 (wrap64 (x31 + 1)) x338000 x338001 x338002)) else (none)) else (none)) else (none)) else (none)) else (none)) else (none)) else (none)) else (none)) else (canon_Sound.l0 k x23 x24 (wrap64 (x25 + 1)) x338000 x338001 x338002)
end
def canon_Sound.f (k : Nat) (l0_0 : List ByteArray) (l0_1 : List Bool) (l0_2 : List (List Int)) : Option (Bool) := (canon_Minimal.f k l0_0 l0_1 l0_2).bind fun bt327 => (if bt327.2.2.2 = 0 then (if 0 < (bt327.2.1.length : Int) then (canon_Sound.j0 k (rdOf false bt327.2.1 0) bt327.1 bt327.2.1 bt327.2.2.1) else (none)) else (canon_Sound.j0 k true bt327.1 bt327.2.1 bt327.2.2.1))
theorem canon_Sound.mono_l : ∀ k, (∀ y0 y1 y2 y3, LeO (canon_Sound.j0 k y0 y1 y2 y3) (canon_Sound.j0 (k + 1) y0 y1 y2 y3)) ∧ (∀ y0 y1 y2 y3 y4 y5, LeO (canon_Sound.l0 k y0 y1 y2 y3 y4 y5) (canon_Sound.l0 (k + 1) y0 y1 y2 y3 y4 y5)) ∧ (∀ y0 y1 y2 y3 y4 y5 y6 y7 y8, LeO (canon_Sound.l1 k y0 y1 y2 y3 y4 y5 y6 y7 y8) (canon_Sound.l1 (k + 1) y0 y1 y2 y3 y4 y5 y6 y7 y8))
 | 0 => ⟨fun _ _ _ _ r h => by simp [canon_Sound.j0] at h, fun _ _ _ _ _ _ r h => by simp [canon_Sound.l0] at h, fun _ _ _ _ _ _ _ _ _ r h => by simp [canon_Sound.l1] at h⟩
 | k + 1 => by
  obtain ⟨ih0, ih1, ih2⟩ := canon_Sound.mono_l k; refine ⟨?_, ?_, ?_⟩
  ·intro y0 y1 y2 y3
   unfold canon_Sound.j0
   repeat' first | (with_reducible first | exact ih0 _ _ _ _ | exact ih1 _ _ _ _ _ _ | exact ih2 _ _ _ _ _ _ _ _ _ | exact canon_Minimal.mono _ _ _ _ | exact lA | apply lI | refine lB ?_ fun _ => ?_) | exact lN _ | apply lI | refine lB ?_ fun _ => ?_
  ·intro y0 y1 y2 y3 y4 y5
   unfold canon_Sound.l0
   repeat' first | (with_reducible first | exact ih0 _ _ _ _ | exact ih1 _ _ _ _ _ _ | exact ih2 _ _ _ _ _ _ _ _ _ | exact canon_Minimal.mono _ _ _ _ | exact lA | apply lI | refine lB ?_ fun _ => ?_) | exact lN _ | apply lI | refine lB ?_ fun _ => ?_
  ·intro y0 y1 y2 y3 y4 y5 y6 y7 y8
   unfold canon_Sound.l1
   repeat' first | (with_reducible first | exact ih0 _ _ _ _ | exact ih1 _ _ _ _ _ _ | exact ih2 _ _ _ _ _ _ _ _ _ | exact canon_Minimal.mono _ _ _ _ | exact lA | apply lI | refine lB ?_ fun _ => ?_) | exact lN _ | apply lI | refine lB ?_ fun _ => ?_
theorem canon_Sound.mono : ∀ a0 a1 a2 k, LeO (canon_Sound.f k a0 a1 a2) (canon_Sound.f (k + 1) a0 a1 a2) := by
 intro a0 a1 a2 k; obtain ⟨ih0, ih1, ih2⟩ := canon_Sound.mono_l k
 unfold canon_Sound.f
 repeat' first | (with_reducible first | exact ih0 _ _ _ _ | exact ih1 _ _ _ _ _ _ | exact ih2 _ _ _ _ _ _ _ _ _ | exact canon_Minimal.mono _ _ _ _ | exact lA | apply lI | refine lB ?_ fun _ => ?_) | exact lN _ | apply lI | refine lB ?_ fun _ => ?_
theorem canon_Sound.calls (k : Nat) (ap : Option Addr) (aq : Nat) (aa : List ByteArray) (ar : Option Addr) (au : Nat) (ab : List Bool) (av : Option Addr) (aw : Nat) (ac : List (List Int)) (r : Bool) (w : World) (bI : Kd.C Kd.string w ap aa.length aa) (bJ : aa.length ≤ aq) (bK : Kd.C Kd.bool w ar ab.length ab) (bL : ab.length ≤ au) (bM : Kd.C (Kd.slice 3 (Kd.int .i64)) w av ac.length ac) (bN : ac.length ≤ aw) (h : canon_Sound.f k aa ab ac = some r) :
  Calls Try.prog 21 #[.agg #[.slice ap aa.length aq, .slice ar ab.length au, .slice av ac.length aw]] w fun e w' => e = .returned (.bool r) ∧ Below w.heap.size w w' := by
 have hu31 := Try.underlying31; have be := aM bI; have bf := aM bJ; clear bI bJ; have bg := aM bK; have bh := aM bL; clear bK bL; have bi := aM bM; have bj := aM bN; clear bM bN; have HB := aM (Below.refl w.heap.size w); rw [canon_Sound.f] at h; have H := h; clear h; replace H := Option.bind_eq_some_iff.mp H; obtain ⟨⟨Q, D, z, aV⟩, cp, H⟩ := H; replace H : (if aV = 0 then (if 0 < (D.length : Int) then (canon_Sound.j0 k (rdOf false D 0) Q D z) else (none)) else (canon_Sound.j0 k true Q D z)) = some r := H; have A2 := aM cp; clear cp; have b8 := aM H; clear H
 go_enter Try.func21, Try.ntmps21
 go_upto_region 2 with (first | ((with_reducible refine gate_dst (N := 1) rfl ?_); refine be_ (cs := #[.slice ap aa.length aq, .slice ar ab.length au, .slice av ac.length aw]) (t := 31) ?_; intro aK hg w4 hbox hb; have E := aM (hbox); have bO := gE hg (bP0 HB); have F := gE hg (bP0 HB); replace HB := hS0 HB hb; clear hb hbox hg; obtain ⟨br, bs, bt, bu, bv, bw⟩ := bG3 E) | (go_at_call 20; (with_reducible refine (canon_Minimal.calls k _ _ aa _ _ ab _ _ ac Q D z aV _ ?s1 bf.out ?s3 bh.out ?s5 bj.out A2.out).mono ?_); (case s1 => exact cB be HB); (case s3 => exact cB bg HB); (case s5 => exact cB bi HB); rintro e w6 ⟨b9, ca, cb, rfl, aR, aS, aT, hb⟩; have V := rW aR (bP1 HB F); have M := rW aS (bP1 HB F); have W := aM (Kd.S_lower aT (below_size (bP1 HB F))); replace E := kB E hb; replace HB := hS1 HB F hb; (try clear hb); (try clear aR); (try clear aS); (try clear aT)) | ((with_reducible refine gate_dst (N := 3) rfl ?_); refine be_ (cs := #[.slice none 0 0, .slice none 0 0, .slice none 0 0]) (t := 31) ?_; intro U hg w7 hbox hb; replace V := rB V hb; replace M := rB M hb; replace W := aM (Kd.S_below (by (with_reducible repeat (first | apply Kd.S_alloc | apply Kd.S_drewN | apply Kd.S_drew)); exact W.out) hb); have G := aM (hbox); have bP := gE hg (bP1 HB F); have ad := gE hg (bP1 HB F); replace HB := hS1 HB F hb; have J := nL hg E; have O := nG hg E; replace E := kB E hb; clear hb hbox hg; obtain ⟨aA, aB, bx⟩ := sL V; subst bx; have cc := O.out; have cd := J.out; obtain ⟨aY, aZ, a3, a4, a5, a6⟩ := bG3 G; obtain ⟨ax, ag, aW⟩ := sL M; subst aW; obtain ⟨al, af, aX⟩ := Kd.S_slice W.out; subst aX))
 repeat (go_quiet (first | ((with_reducible refine gate_dst (N := 1) rfl ?_); refine be_ (cs := #[.slice ap aa.length aq, .slice ar ab.length au, .slice av ac.length aw]) (t := 31) ?_; intro aK hg w4 hbox hb; have E := aM (hbox); have bO := gE hg (bP0 HB); have F := gE hg (bP0 HB); replace HB := hS0 HB hb; clear hb hbox hg; obtain ⟨br, bs, bt, bu, bv, bw⟩ := bG3 E) | (go_at_call 20; (with_reducible refine (canon_Minimal.calls k _ _ aa _ _ ab _ _ ac Q D z aV _ ?s1 bf.out ?s3 bh.out ?s5 bj.out A2.out).mono ?_); (case s1 => exact cB be HB); (case s3 => exact cB bg HB); (case s5 => exact cB bi HB); rintro e w6 ⟨b9, ca, cb, rfl, aR, aS, aT, hb⟩; have V := rW aR (bP1 HB F); have M := rW aS (bP1 HB F); have W := aM (Kd.S_lower aT (below_size (bP1 HB F))); replace E := kB E hb; replace HB := hS1 HB F hb; (try clear hb); (try clear aR); (try clear aS); (try clear aT)) | ((with_reducible refine gate_dst (N := 3) rfl ?_); refine be_ (cs := #[.slice none 0 0, .slice none 0 0, .slice none 0 0]) (t := 31) ?_; intro U hg w7 hbox hb; replace V := rB V hb; replace M := rB M hb; replace W := aM (Kd.S_below (by (with_reducible repeat (first | apply Kd.S_alloc | apply Kd.S_drewN | apply Kd.S_drew)); exact W.out) hb); have G := aM (hbox); have bP := gE hg (bP1 HB F); have ad := gE hg (bP1 HB F); replace HB := hS1 HB F hb; have J := nL hg E; have O := nG hg E; replace E := kB E hb; clear hb hbox hg; obtain ⟨aA, aB, bx⟩ := sL V; subst bx; have cc := O.out; have cd := J.out; obtain ⟨aY, aZ, a3, a4, a5, a6⟩ := bG3 G; obtain ⟨ax, ag, aW⟩ := sL M; subst aW; obtain ⟨al, af, aX⟩ := Kd.S_slice W.out; subst aX)); go_upto_region 2 with (first | ((with_reducible refine gate_dst (N := 1) rfl ?_); refine be_ (cs := #[.slice ap aa.length aq, .slice ar ab.length au, .slice av ac.length aw]) (t := 31) ?_; intro aK hg w4 hbox hb; have E := aM (hbox); have bO := gE hg (bP0 HB); have F := gE hg (bP0 HB); replace HB := hS0 HB hb; clear hb hbox hg; obtain ⟨br, bs, bt, bu, bv, bw⟩ := bG3 E) | (go_at_call 20; (with_reducible refine (canon_Minimal.calls k _ _ aa _ _ ab _ _ ac Q D z aV _ ?s1 bf.out ?s3 bh.out ?s5 bj.out A2.out).mono ?_); (case s1 => exact cB be HB); (case s3 => exact cB bg HB); (case s5 => exact cB bi HB); rintro e w6 ⟨b9, ca, cb, rfl, aR, aS, aT, hb⟩; have V := rW aR (bP1 HB F); have M := rW aS (bP1 HB F); have W := aM (Kd.S_lower aT (below_size (bP1 HB F))); replace E := kB E hb; replace HB := hS1 HB F hb; (try clear hb); (try clear aR); (try clear aS); (try clear aT)) | ((with_reducible refine gate_dst (N := 3) rfl ?_); refine be_ (cs := #[.slice none 0 0, .slice none 0 0, .slice none 0 0]) (t := 31) ?_; intro U hg w7 hbox hb; replace V := rB V hb; replace M := rB M hb; replace W := aM (Kd.S_below (by (with_reducible repeat (first | apply Kd.S_alloc | apply Kd.S_drewN | apply Kd.S_drew)); exact W.out) hb); have G := aM (hbox); have bP := gE hg (bP1 HB F); have ad := gE hg (bP1 HB F); replace HB := hS1 HB F hb; have J := nL hg E; have O := nG hg E; replace E := kB E hb; clear hb hbox hg; obtain ⟨aA, aB, bx⟩ := sL V; subst bx; have cc := O.out; have cd := J.out; obtain ⟨aY, aZ, a3, a4, a5, a6⟩ := bG3 G; obtain ⟨ax, ag, aW⟩ := sL M; subst aW; obtain ⟨al, af, aX⟩ := Kd.S_slice W.out; subst aX)))
 (try simp only [Act.put, sA, sB, sC])
 go_cut [21] (fun cZ wc => ∃ (kq : Nat) (aU : Bool), cZ = .bool aU ∧ Aside0 (canon_Sound.j0 kq aU Q D z = some r) ∧ Aside0 (kq ≤ k) ∧ RA Kd.string 9 wc w (.slice aA Q.length aB) Q ∧ RA Kd.bool 4 wc w (.slice ax D.length ag) D ∧ Aside0 (Kd.S (Kd.slice 3 (Kd.int .i64)) 42 wc w.heap.size (fun _ => True) (.slice al z.length af) z) ∧ Aside0 (wc.heap[aK]? = some (.cells #[(.slice ap aa.length aq), (.slice ar ab.length au), (.slice av ac.length aw)] 31 (0, 0))) ∧ Aside0 (wc.heap[U]? = some (.cells #[(.slice aA Q.length aB), (.slice ax D.length ag), (.slice al z.length af)] 31 (0, 0))) ∧ BA w wc)
 case first =>
  have H := b8.out; clear b8
  by_cases bz : aV = 0
  ·rw [if_pos bz] at H; obtain ⟨aL, ch⟩ := bq bz; clear bz
   (first | rw [aL] | (simp only [i64_w, i32_w]; rw [aL]) | skip)
   by_cases bQ : 0 < (D.length : Int)
   ·rw [if_pos bQ] at H; have c3 := dT bQ; have c4 : decide (0 < D.length) = true := dT (by omega); clear bQ; have H' := aM H; clear H; have c5 := O.out; have c6 := J.out; obtain ⟨cw, cx, cy, cz, cA, cC⟩ := bG3 G; have bB : 0 ≤ (0 : Int) := (by omega); have bC : 0 < (D.length : Int) := oT aO; obtain ⟨aN, cu, Y⟩ := Kd.at_bool (rR M).2.2 0 bB bC; cases cu; have qi338 : (0 < D.length) = True := eq_true (by omega)
    (try rw [show ((0 : Int)).toNat = 0 from rfl] at Y)
    (try rw [Addr.add_zero'] at Y)
    have a7 : aN.block ≠ U := Kd.own_blk (Kd.R_ne M.out G.out (by decide)); have a8 : aN.block ≠ U := Kd.own_blk (Kd.R_ne M.out G.out (by decide)); have a9 : aN.block ≠ U := Kd.own_blk (Kd.R_ne M.out G.out (by decide)); replace Y := (cell_far (p := ⟨U, 0, none⟩) (nO a7) (.slice aA Q.length aB)).trans Y; replace Y := (cell_far (p := ⟨U, 1, none⟩) (nO a8) (.slice (some aN) D.length ag)).trans Y; replace Y := (cell_far (p := ⟨U, 2, none⟩) (nO a9) (.slice al z.length af)).trans Y
    (try have cD := fun (n_ : Nat) => (show (((((w7.drewN n_).setCell ⟨U, 0, none⟩ (.slice aA Q.length aB)).setCell ⟨U, 1, none⟩ (.slice (some aN) D.length ag)).setCell ⟨U, 2, none⟩ (.slice al z.length af))).cell? _ = some _ from Y))
    clear a7; clear a8; clear a9; replace bB := eq_true bB; replace bC := eq_true bC
    go_wp2
    repeat (go_quiet (fail); try go_wp2)
    go_meet
    case rel => exact ⟨_, (rdOf false D 0), sI, H', ⟨by first | omega | exact Nat.le_refl _⟩, ⟨rZ V G⟩, ⟨rZ M G⟩, ⟨sZ W G⟩, ⟨kN E J⟩, ⟨by (with_reducible repeat (first | refine blk_drewN ?_ _ | refine blk_drew ?_ | refine blk_alloc ?_ _)); exact blk_put (blk_put (blk_put G.out 0 _ rfl) 1 _ rfl) 2 _ rfl⟩, bT2 HB F ad⟩
   ·exact nX bQ H
  ·rw [if_neg bz] at H; obtain ⟨aL, ch⟩ := bn bz
   (first | rw [aL] | (simp only [i64_w, i32_w]; rw [aL]) | skip)
   have H' := aM H; clear H
   go_wp2
   repeat (go_quiet (fail); try go_wp2)
   go_meet
   case rel => exact ⟨_, (true), sI, H', ⟨by first | omega | exact Nat.le_refl _⟩, ⟨rZ V G⟩, ⟨rZ M G⟩, ⟨sZ W G⟩, ⟨kN E J⟩, ⟨by (with_reducible repeat (first | refine blk_drewN ?_ _ | refine blk_drew ?_ | refine blk_alloc ?_ _)); exact blk_put (blk_put (blk_put G.out 0 _ rfl) 1 _ rfl) 2 _ rfl⟩, bT2 HB F ad⟩
 case rest =>
  clear b8
  obtain ⟨kq, aU, rfl, HA, HJ2, Z, L, I, E, G, HB⟩ := hcut; cases kq with
  | zero => exact absurd HA.out (by simp [canon_Sound.j0])
  | succ cq =>
   have H := HA.out; clear HA; simp only [canon_Sound.j0] at H
   by_cases bR : aU = true
   ·subst bR
    rw [if_pos rfl] at H; obtain rfl := Option.some.inj H
    go_wp2
    repeat (go_quiet (fail); try go_wp2)
    go_ret
    exact ⟨eW, bS2 HB.out F.out ad.out⟩
   ·replace bR := Bool.eq_false_iff.mpr bR; subst bR
    rw [if_neg nF] at H; have H' := aM H; clear H; have c7 := O.out; have c8 := J.out; obtain ⟨cE, cF, cG, cH, cI, cJ⟩ := bG3 G
    go_wp2
    repeat (go_quiet (fail); try go_wp2)
    go_loopg [25] cq (fun kq c0 w' => ∃ (B : Int), c0 = .int .i64 B ∧ Aside0 (canon_Sound.l0 kq z (z.length : Int) B Q D z = some r) ∧ Aside0 (kq ≤ cq) ∧ Aside0 (Kd.S (Kd.slice 3 (Kd.int .i64)) 42 w' w.heap.size (fun _ => True) (.slice al z.length af) z) ∧ RA Kd.string 9 w' w (.slice aA Q.length aB) Q ∧ RA Kd.bool 4 w' w (.slice ax D.length ag) D ∧ Aside0 (Kd.S (Kd.slice 3 (Kd.int .i64)) 42 w' w.heap.size (fun _ => True) (.slice al z.length af) z) ∧ Aside0 (w'.heap[aK]? = some (.cells #[(.slice ap aa.length aq), (.slice ar ab.length au), (.slice av ac.length aw)] 31 (0, 0))) ∧ Aside0 (w'.heap[U]? = some (.cells #[(.slice aA Q.length aB), (.slice ax D.length ag), (.slice al z.length af)] 31 (0, 0))) ∧ BA w w')
    case atStart => exact ⟨(0), sI, H', ⟨Nat.le_refl _⟩, ⟨by (with_reducible repeat (first | apply Kd.S_alloc | apply Kd.S_drewN | apply Kd.S_drew)); exact I.out⟩, rQ Z, rQ L, ⟨by (with_reducible repeat (first | apply Kd.S_alloc | apply Kd.S_drewN | apply Kd.S_drew)); exact I.out⟩, kQ E, kQ G, bT2 HB F ad⟩
    case round =>
     clear H'
     obtain ⟨B, rfl, HA, HK2, am, Z, L, I, E, G, HB⟩ := hrel; cases gk with
     | zero => exact absurd HA.out (by simp [canon_Sound.l0])
     | succ k2 =>
      have H := HA.out; clear HA; simp only [canon_Sound.l0] at H
      by_cases ba : B < (z.length : Int)
      ·rw [if_pos ba] at H; have ci := dT ba; clear ba
       by_cases bS : 0 ≤ B
       ·rw [if_pos bS] at H; have c9 := dT bS; clear bS
        by_cases bT : B < (z.length : Int)
        ·rw [if_pos bT] at H; have da := dT bT; clear bT; have H' := aM H; clear H; have bk : 0 ≤ (B : Int) := oT aO; have bl : B < (z.length : Int) := oT aO; obtain ⟨aP, ce, c1, cv, b2, bb, bc⟩ := at_L3 (Kd.S_reads' am.out).2.2 B bk bl; cases cv; obtain ⟨ce339, hce339, hMe339, bA⟩ := Kd.S_get am.out [] B bk (by first | exact bl | exact oT aO | (have e_ := (Kd.S_reads' am.out).1; omega)); obtain ⟨ve339_0, rfl, ge339_0⟩ := hMe339; have ah := bA 0 _ rfl; rw [Nat.add_zero, show ((Kd.slice 3 (Kd.int .i64))).sz = 1 from rfl, Nat.mul_one] at ah; replace ah := Option.some.inj (ah.symm.trans b2); rw [ah] at ge339_0; have HL339_0 := aM (show Kd.R (Kd.int .i64) 3 _ _ _ _ (rd_L3 z B) from ge339_0); clear ah ge339_0; clear bA hce339; have ae := aM bc; have cK := aM bb; clear bc bb; replace bk := eq_true bk; replace bl := eq_true bl
         go_wp2
         repeat (go_quiet (fail); try go_wp2)
         go_loopg [31] k2 (fun kq c2 w' => ∃ (A : Int), c2 = .int .i64 A ∧ Aside0 (canon_Sound.l1 kq z (z.length : Int) B (rd_L3 z B) ((rd_L3 z B).length : Int) A Q D z = some r) ∧ Aside0 (kq ≤ k2) ∧ Aside0 (Kd.S (Kd.slice 3 (Kd.int .i64)) 42 w' w.heap.size (fun _ => True) (.slice (some aP) z.length af) z) ∧ RA Kd.string 9 w' w (.slice aA Q.length aB) Q ∧ RA Kd.bool 4 w' w (.slice ax D.length ag) D ∧ Aside0 (Kd.S (Kd.slice 3 (Kd.int .i64)) 42 w' w.heap.size (fun _ => True) (.slice (some aP) z.length af) z) ∧ Aside0 (w'.heap[aK]? = some (.cells #[(.slice ap aa.length aq), (.slice ar ab.length au), (.slice av ac.length aw)] 31 (0, 0))) ∧ Aside0 (w'.heap[U]? = some (.cells #[(.slice aA Q.length aB), (.slice ax D.length ag), (.slice (some aP) z.length af)] 31 (0, 0))) ∧ Aside0 (Kd.C (Kd.int .i64) w' ce (rd_L3 z B).length (rd_L3 z B)) ∧ BA w w')
         case atStart => exact ⟨(0), sI, H', ⟨Nat.le_refl _⟩, ⟨by (with_reducible repeat (first | apply Kd.S_alloc | apply Kd.S_drewN | apply Kd.S_drew)); exact am.out⟩, rQ Z, rQ L, ⟨by (with_reducible repeat (first | apply Kd.S_alloc | apply Kd.S_drewN | apply Kd.S_drew)); exact I.out⟩, kQ E, kQ G, ⟨by repeat (first | (with_reducible exact ae.out) | (with_reducible refine Kd.C_alloc ?_ _) | (with_reducible refine Kd.C_drewN ?_ _) | (with_reducible refine Kd.C_drew ?_) | exact ae.out)⟩, bT2 HB F ad⟩
         case round =>
          clear H'
          obtain ⟨A, rfl, HA, HK3, am, Z, L, I, E, G, ae, HB⟩ := hrel; cases gk with
          | zero => exact absurd HA.out (by simp [canon_Sound.l1])
          | succ k3 =>
           have H := HA.out; clear HA; simp only [canon_Sound.l1] at H
           by_cases bd : A < ((rd_L3 z B).length : Int)
           ·rw [if_pos bd] at H; have cj := dT bd; clear bd
            by_cases bU : 0 ≤ A
            ·rw [if_pos bU] at H; have db := dT bU; clear bU
             by_cases bV : A < ((rd_L3 z B).length : Int)
             ·rw [if_pos bV] at H; have dc := dT bV; clear bV
              by_cases bW : 0 ≤ (rd (rd_L3 z B) A)
              ·rw [if_pos bW] at H; have dd := dT bW; clear bW
               by_cases bX : (rd (rd_L3 z B) A) < (D.length : Int)
               ·rw [if_pos bX] at H; have de := dT bX; clear bX
                by_cases bY : (rd (rd_L3 z B) A) < (z.length : Int)
                ·rw [if_pos bY] at H; have df := dT bY; clear bY
                 by_cases bZ : A < ((rd_L3 z (rd (rd_L3 z B) A)).length : Int)
                 ·rw [if_pos bZ] at H; have dg := dT bZ; clear bZ
                  by_cases b0 : 0 ≤ (rd (rd_L3 z (rd (rd_L3 z B) A)) A)
                  ·rw [if_pos b0] at H; have dh := dT b0; clear b0
                   by_cases b1 : (rd (rd_L3 z (rd (rd_L3 z B) A)) A) < (D.length : Int)
                   ·rw [if_pos b1] at H; have di := dT b1; clear b1
                    by_cases ay : ((rdOf false D (rd (rd_L3 z B) A)) != (rdOf false D (rd (rd_L3 z (rd (rd_L3 z B) A)) A))) = true
                    ·rw [if_pos ay] at H; have ck : ((rdOf false D (rd (rd_L3 z B) A)) != (rdOf false D (rd (rd_L3 z (rd (rd_L3 z B) A)) A))) = true := ay
                     (try (have cl : decide ((rdOf false D (rd (rd_L3 z B) A)) = (rdOf false D (rd (rd_L3 z (rd (rd_L3 z B) A)) A))) = false := by simpa using ay))
                     (try (have cm : ((rdOf false D (rd (rd_L3 z B) A)) == (rdOf false D (rd (rd_L3 z (rd (rd_L3 z B) A)) A))) = false := by simpa using ay))
                     (try (have dj : ¬ ((rdOf false D (rd (rd_L3 z B) A)) = (rdOf false D (rd (rd_L3 z (rd (rd_L3 z B) A)) A))) := by simpa using ay))
                     clear ay; obtain rfl := Option.some.inj H; have aC : 0 ≤ (A : Int) := oT aO; have aD : A < ((rd_L3 z B).length : Int) := oT aO; obtain ⟨cn, bD, b3⟩ := Kd.at_int ae.out A aC aD; cases bD; replace aC := eq_true aC; replace aD := eq_true aD; have dk := O.out; have dl := J.out; obtain ⟨cL, cM, cN, cO, cP, cQ⟩ := bG3 G; have aE : 0 ≤ ((rd (rd_L3 z B) A) : Int) := oT aO; have aF : (rd (rd_L3 z B) A) < (D.length : Int) := oT aO; obtain ⟨bm, bE, b4⟩ := Kd.at_bool (rR L).2.2 (rd (rd_L3 z B) A) aE aF; cases bE; replace aE := eq_true aE; replace aF := eq_true aF; have an : 0 ≤ ((rd (rd_L3 z B) A) : Int) := oT aO; have ao : (rd (rd_L3 z B) A) < (z.length : Int) := oT aO; obtain ⟨bo, cf, cg, bF, aQ, ai, aj⟩ := at_L3 (Kd.S_reads' I.out).2.2 (rd (rd_L3 z B) A) an ao; have he_ : aP = bo := (by injection bF); subst he_; obtain ⟨ce342, hce342, hMe342, az⟩ := Kd.S_get I.out [] (rd (rd_L3 z B) A) an (by first | exact ao | exact oT aO | (have e_ := (Kd.S_reads' I.out).1; omega)); obtain ⟨ve342_0, rfl, ge342_0⟩ := hMe342; have P := az 0 _ rfl; rw [Nat.add_zero, show ((Kd.slice 3 (Kd.int .i64))).sz = 1 from rfl, Nat.mul_one] at P; replace P := Option.some.inj (P.symm.trans aQ); rw [P] at ge342_0; have HL342_0 := aM (show Kd.R (Kd.int .i64) 3 _ _ _ _ (rd_L3 z (rd (rd_L3 z B) A)) from ge342_0); clear P ge342_0; clear az hce342; have ak := aM aj; have b5 := aM ai; clear aj ai; replace an := eq_true an; replace ao := eq_true ao; have aG : 0 ≤ (A : Int) := oT aO; have aH : A < ((rd_L3 z (rd (rd_L3 z B) A)).length : Int) := oT aO; obtain ⟨co, bG, b6⟩ := Kd.at_int (by repeat (first | (with_reducible exact ak.out) | (with_reducible refine Kd.C_alloc ?_ _) | (with_reducible refine Kd.C_drewN ?_ _) | (with_reducible refine Kd.C_drew ?_) | exact ak.out)) A aG aH; cases bG; replace aG := eq_true aG; replace aH := eq_true aH; have aI : 0 ≤ ((rd (rd_L3 z (rd (rd_L3 z B) A)) A) : Int) := oT aO; have aJ : (rd (rd_L3 z (rd (rd_L3 z B) A)) A) < (D.length : Int) := oT aO; obtain ⟨bp, bH, b7⟩ := Kd.at_bool (rR L).2.2 (rd (rd_L3 z (rd (rd_L3 z B) A)) A) aI aJ; have he_ : bm = bp := (by injection bH); subst he_; replace aI := eq_true aI; replace aJ := eq_true aJ
                     go_wp2
                     repeat (go_quiet (fail); try go_wp2)
                     go_ret
                     exact ⟨eW, bS2 HB.out F.out ad.out⟩
                    ·rw [if_neg ay] at H
                     have ck : ((rdOf false D (rd (rd_L3 z B) A)) != (rdOf false D (rd (rd_L3 z (rd (rd_L3 z B) A)) A))) = false := by simpa using ay
                     (try (have cl : decide ((rdOf false D (rd (rd_L3 z B) A)) = (rdOf false D (rd (rd_L3 z (rd (rd_L3 z B) A)) A))) = true := by simpa using ay))
                     (try (have cm : ((rdOf false D (rd (rd_L3 z B) A)) == (rdOf false D (rd (rd_L3 z (rd (rd_L3 z B) A)) A))) = true := by simpa using ay))
                     clear ay; have H' := aM H; clear H; have aC : 0 ≤ (A : Int) := oT aO; have aD : A < ((rd_L3 z B).length : Int) := oT aO; obtain ⟨cn, bD, b3⟩ := Kd.at_int ae.out A aC aD; cases bD; replace aC := eq_true aC; replace aD := eq_true aD; have dm := O.out; have dn := J.out; obtain ⟨cR, cS, cT, cU, cV, cW⟩ := bG3 G; have aE : 0 ≤ ((rd (rd_L3 z B) A) : Int) := oT aO; have aF : (rd (rd_L3 z B) A) < (D.length : Int) := oT aO; obtain ⟨bm, bE, b4⟩ := Kd.at_bool (rR L).2.2 (rd (rd_L3 z B) A) aE aF; cases bE; replace aE := eq_true aE; replace aF := eq_true aF; have an : 0 ≤ ((rd (rd_L3 z B) A) : Int) := oT aO; have ao : (rd (rd_L3 z B) A) < (z.length : Int) := oT aO; obtain ⟨bo, cf, cg, bF, aQ, ai, aj⟩ := at_L3 (Kd.S_reads' I.out).2.2 (rd (rd_L3 z B) A) an ao; have he_ : aP = bo := (by injection bF); subst he_; obtain ⟨ce342, hce342, hMe342, az⟩ := Kd.S_get I.out [] (rd (rd_L3 z B) A) an (by first | exact ao | exact oT aO | (have e_ := (Kd.S_reads' I.out).1; omega)); obtain ⟨ve342_0, rfl, ge342_0⟩ := hMe342; have P := az 0 _ rfl; rw [Nat.add_zero, show ((Kd.slice 3 (Kd.int .i64))).sz = 1 from rfl, Nat.mul_one] at P; replace P := Option.some.inj (P.symm.trans aQ); rw [P] at ge342_0; have HL342_0 := aM (show Kd.R (Kd.int .i64) 3 _ _ _ _ (rd_L3 z (rd (rd_L3 z B) A)) from ge342_0); clear P ge342_0; clear az hce342; have ak := aM aj; have b5 := aM ai; clear aj ai; replace an := eq_true an; replace ao := eq_true ao; have aG : 0 ≤ (A : Int) := oT aO; have aH : A < ((rd_L3 z (rd (rd_L3 z B) A)).length : Int) := oT aO; obtain ⟨co, bG, b6⟩ := Kd.at_int (by repeat (first | (with_reducible exact ak.out) | (with_reducible refine Kd.C_alloc ?_ _) | (with_reducible refine Kd.C_drewN ?_ _) | (with_reducible refine Kd.C_drew ?_) | exact ak.out)) A aG aH; cases bG; replace aG := eq_true aG; replace aH := eq_true aH; have aI : 0 ≤ ((rd (rd_L3 z (rd (rd_L3 z B) A)) A) : Int) := oT aO; have aJ : (rd (rd_L3 z (rd (rd_L3 z B) A)) A) < (D.length : Int) := oT aO; obtain ⟨bp, bH, b7⟩ := Kd.at_bool (rR L).2.2 (rd (rd_L3 z (rd (rd_L3 z B) A)) A) aI aJ; have he_ : bm = bp := (by injection bH); subst he_; replace aI := eq_true aI; replace aJ := eq_true aJ
                     go_wp2
                     repeat (go_quiet (fail); try go_wp2)
                     go_roundg k3
                     case measure => have := HJ2.out; have := HK2.out; have := HK3.out; omega
                     case rel => exact ⟨(wrap64 (A + 1)), sI, H', ⟨by have := HJ2.out; have := HK2.out; have := HK3.out; omega⟩, ⟨by (with_reducible repeat (first | apply Kd.S_alloc | apply Kd.S_drewN | apply Kd.S_drew)); exact am.out⟩, rQ Z, rQ L, ⟨by (with_reducible repeat (first | apply Kd.S_alloc | apply Kd.S_drewN | apply Kd.S_drew)); exact I.out⟩, kQ E, kQ G, ⟨by repeat (first | (with_reducible exact ae.out) | (with_reducible refine Kd.C_alloc ?_ _) | (with_reducible refine Kd.C_drewN ?_ _) | (with_reducible refine Kd.C_drew ?_) | exact ae.out)⟩, bT2 HB F ad⟩
                   ·exact nX b1 H
                  ·exact nX b0 H
                 ·exact nX bZ H
                ·exact nX bY H
               ·exact nX bX H
              ·exact nX bW H
             ·exact nX bV H
            ·exact nX bU H
           ·rw [if_neg bd] at H; have cj := decide_eq_false bd; clear bd; have H' := aM H; clear H
            go_wp2
            repeat (go_quiet (fail); try go_wp2)
            go_roundg k3
            case measure => have := HJ2.out; have := HK2.out; have := HK3.out; omega
            case rel => exact ⟨(wrap64 (B + 1)), sI, H', ⟨by have := HJ2.out; have := HK2.out; have := HK3.out; omega⟩, ⟨by (with_reducible repeat (first | apply Kd.S_alloc | apply Kd.S_drewN | apply Kd.S_drew)); exact am.out⟩, rQ Z, rQ L, ⟨by (with_reducible repeat (first | apply Kd.S_alloc | apply Kd.S_drewN | apply Kd.S_drew)); exact I.out⟩, kQ E, kQ G, bT2 HB F ad⟩
        ·exact nX bT H
       ·exact nX bS H
      ·rw [if_neg ba] at H; have ci := decide_eq_false ba; clear ba; obtain rfl := Option.some.inj H
       go_wp2
       repeat (go_quiet (fail); try go_wp2)
       go_ret
       exact ⟨eW, bS2 HB.out F.out ad.out⟩

end Go.Proofs.Ythgoonohpfoagaa.X
namespace Go.Proofs.Ythgoonohpfoagaa.X
open Go.RowKit Go.Proofs.YthgoonohpfoagaaW.PrintWords Go.Proofs.YthgoonohpfoagaaW.PrintLast Go.Proofs.YthgoonohpfoagaaW.PrintMore
attribute [local go_sem] max2_int min2_int max_two min_two max_three min_three max_four min_four
set_option linter.unusedVariables false
set_option linter.unusedSimpArgs false
set_option maxHeartbeats 8000000
set_option maxRecDepth 100000

/-! ### bits_Digit: function 38 -/
def bits_Digit.f (a0 : Int) (a1 : Int) : Option (Int) := if a0 < 0 then (some 0) else (if a1 < 0 then (some 0) else (if a1 > 61 then (some 0) else (if 0 ≤ a1 then (some (Go.bits .and .i64 (shr .i64 a0 a1) 1)) else (none))))
theorem bits_Digit.calls (B : Int) (A : Int) (r : Int) (w : World) (h : bits_Digit.f B A = some r) :
  Calls Try.prog 38 #[.int .i64 B, .int .i64 A] w fun e w' => e = .returned (.int .i64 r) ∧ Drawn0 w w' := by
 rw [bits_Digit.f] at h; have H := h; clear h
 by_cases D : B < 0
 ·rw [if_pos D] at H; have J := dT D; clear D; obtain rfl := Option.some.inj H
  go_enter Try.func38, Try.ntmps38
  go_wp2
  go_ret
  exact ⟨by first | rfl | (simp; done) | (simp [*]; done), by repeat (first | exact Drawn0.refl _ | apply Drawn0.step)⟩
 ·rw [if_neg D] at H; have J := decide_eq_false D; clear D
  by_cases E : A < 0
  ·rw [if_pos E] at H; have L := dT E; clear E; obtain rfl := Option.some.inj H
   go_enter Try.func38, Try.ntmps38
   go_wp2
   go_ret
   exact ⟨by first | rfl | (simp; done) | (simp [*]; done), by repeat (first | exact Drawn0.refl _ | apply Drawn0.step)⟩
  ·rw [if_neg E] at H; have L := decide_eq_false E; clear E
   by_cases F : A > 61
   ·rw [if_pos F] at H; have M := dT F; clear F; obtain rfl := Option.some.inj H
    go_enter Try.func38, Try.ntmps38
    go_wp2
    go_ret
    exact ⟨by first | rfl | (simp; done) | (simp [*]; done), by repeat (first | exact Drawn0.refl _ | apply Drawn0.step)⟩
   ·rw [if_neg F] at H; have M := decide_eq_false F; clear F
    by_cases G : 0 ≤ A
    ·rw [if_pos G] at H; have O := eq_true G; have P := dT G; clear G; obtain ⟨I, z⟩ : ∃ j_ : Int, (shr .i64 B A) = j_ := ⟨_, rfl⟩
     first | rw [z] at H | simp only [z] at H
     have N : (B / 2 ^ min A.toNat 64) = I := z; have hji7z : A ≤ 64 → (B / 2 ^ A.toNat) = I := shr_small z; obtain rfl := Option.some.inj H
     go_enter Try.func38, Try.ntmps38
     go_wp2
     go_ret
     exact ⟨by first | rfl | (simp; done) | (simp only [← z] <;> (first | rfl | simp)) | (simp [*]; done), by repeat (first | exact Drawn0.refl _ | apply Drawn0.step)⟩
    ·exact nX G H

/-! ### slices_IndexFunc_int_int: function 88 -/
/-- The function value that word.Number hands over: is it no digit? -/
def noDigit (d : Int) : Bool := d != 0 && d != 1
theorem noDigit_calls (d : Int) (w : World) : Calls Try.prog 65 #[.int .i64 d] w fun e w' => e = .returned (.bool (noDigit d)) ∧ w = w' := by
 by_cases h0 : d = 0
 ·subst h0
  go_enter Try.func65, Try.ntmps65
  go_wp2
  go_ret
  exact ⟨rfl, rfl⟩
 ·have b0 : (d != 0) = true := by simpa using h0
  have b1 : (d == 0) = false := by simpa using h0
  have e : noDigit d = (d != 1) := by unfold noDigit; rw [b0, Bool.true_and]
  rw [e]; clear e h0
  go_enter Try.func65, Try.ntmps65
  go_wp2
  go_ret
  exact ⟨rfl, rfl⟩
def slices_IndexFunc_int_int.f (l0 : List Int) : Option Int := some (((l0.findIdx? noDigit).map fun i : Nat => (i : Int)).getD (-1))
theorem slices_IndexFunc_int_int.hit {l : List Int} {k : Nat} (hk : k < l.length) (hb : ∀ j : Nat, j < k → noDigit (rd l (j : Int)) = false) (hh : noDigit (rd l (k : Int)) = true) : slices_IndexFunc_int_int.f l = some (k : Int) := by
 simp only [rd, Int.toNat_natCast] at hb hh
 have : l.findIdx? noDigit = some k := by
  rw [List.findIdx?_eq_some_iff_getElem]; refine ⟨hk, ?_, fun j hj => ?_⟩
  ·rw [List.getD_eq_getElem?_getD, List.getElem?_eq_getElem hk] at hh; exact hh
  ·have := hb j hj; rw [List.getD_eq_getElem?_getD, List.getElem?_eq_getElem (Nat.lt_trans hj hk)] at this
   simpa using this
 unfold slices_IndexFunc_int_int.f
 rw [this]; rfl
theorem slices_IndexFunc_int_int.miss {l : List Int} (hb : ∀ j : Nat, j < l.length → noDigit (rd l (j : Int)) = false) : slices_IndexFunc_int_int.f l = some (-1) := by
 simp only [rd, Int.toNat_natCast] at hb
 have : l.findIdx? noDigit = none := by
  rw [List.findIdx?_eq_none_iff]; intro x hx; obtain ⟨j, hj, rfl⟩ := List.getElem_of_mem hx; have := hb j hj; rw [List.getD_eq_getElem?_getD, List.getElem?_eq_getElem hj] at this; exact this
 unfold slices_IndexFunc_int_int.f
 rw [this]; rfl
theorem slices_IndexFunc_int_int.calls (D : Option Addr) (E : Nat) (z : List Int) (r : Int) (w : World) (A : Kd.C (Kd.int .i64) w D z.length z) (F : z.length ≤ E) (h : slices_IndexFunc_int_int.f z = some r) :
  Calls Try.prog 88 #[.slice D z.length E, .func (.func 65) #[] #[]] w fun e w' => e = .returned (.int .i64 r) ∧ Drawn0 w w' := by
 have G := aM A; have HH := aM h; have hm : z.length ≤ 9223372036854775807 := A.2.1; clear A F h; have hrefl : ∀ W : World, Drawn0 W W := Drawn0.refl; have HRE := aM hrefl; clear hrefl
 go_enter Try.func88, Try.ntmps88
 go_wp2
 go_loop [8] (fun B => ∃ k : Nat, k ≤ z.length ∧ B = .int .i64 k ∧ Aside0 (∀ j : Nat, j < k → noDigit (rd z (j : Int)) = false)) (fun B => z.length - (intOf B).toNat)
 case atStart => exact ⟨0, Nat.zero_le _, rfl, ⟨fun j hj => absurd hj (Nat.not_lt_zero _)⟩⟩
 case round =>
  obtain ⟨k, hk, rfl, HJ⟩ := hrel
  by_cases hlt : k < z.length
  ·obtain ⟨ad, I, hx⟩ := Kd.at_int G.out (k : Int) (by omega) (by omega); cases I; rw [Int.toNat_natCast] at hx; obtain ⟨y, hy⟩ : ∃ y, y = rd z (k : Int) := ⟨_, rfl⟩; rw [← hy] at hx
   by_cases hp : noDigit y = true
   ·have hr : r = (k : Int) := by
     have := slices_IndexFunc_int_int.hit hlt HJ.out (by rw [← hy]; exact hp); rw [HH.out] at this; exact Option.some.inj this
    subst hr; clear hy
    go_wp2_with (go_at_call 65; (with_reducible refine (noDigit_calls _ _).mono ?_); rintro e w' ⟨rfl, rfl⟩)
    go_ret
    exact ⟨rfl, HRE.out _⟩
   ·have hp' : noDigit y = false := by simpa using hp
    clear hp; have HP := aM (show noDigit (rd z (k : Int)) = false by rw [← hy]; exact hp'); clear hy
    go_wp2_with (go_at_call 65; (with_reducible refine (noDigit_calls _ _).mono ?_); rintro e w' ⟨rfl, rfl⟩)
    go_round
    case rel =>
     refine ⟨k + 1, by omega, by go_num, ⟨fun j hj => ?_⟩⟩
     rcases Nat.lt_succ_iff_lt_or_eq.1 hj with h | rfl
     ·exact HJ.out j h
     ·exact HP.out
    case measure => simp [intOf]; omega
  ·have hr : r = -1 := by
    have : k = z.length := by omega
    subst this; have := slices_IndexFunc_int_int.miss HJ.out; rw [HH.out] at this; exact Option.some.inj this
   subst hr
   go_wp2
   go_ret
   exact ⟨rfl, HRE.out _⟩

/-! ### slices_ContainsFunc_int_int: function 64 -/
def slices_ContainsFunc_int_int.f (l0 : List Int) : Option Bool := some (l0.any noDigit)
theorem slices_ContainsFunc_int_int.calls (D : Option Addr) (E : Nat) (z : List Int) (r : Bool) (w : World) (A : Kd.C (Kd.int .i64) w D z.length z) (B : z.length ≤ E) (h : slices_ContainsFunc_int_int.f z = some r) :
  Calls Try.prog 64 #[.slice D z.length E, .func (.func 65) #[] #[]] w fun e w' => e = .returned (.bool r) ∧ Drawn0 w w' := by
 obtain ⟨i, hi⟩ : ∃ i, slices_IndexFunc_int_int.f z = some i := ⟨_, rfl⟩
 have hr : decide (i ≥ 0) = r := by
  have G : z.any noDigit = r := Option.some.inj h; rw [← G]
  unfold slices_IndexFunc_int_int.f at hi
  have hi := Option.some.inj hi
  by_cases ha : z.any noDigit = true
  ·rw [ha]; cases hf : z.findIdx? noDigit with
   | none =>
    rw [List.findIdx?_eq_none_iff] at hf; rw [List.any_eq_true] at ha; obtain ⟨x, hx, hp⟩ := ha; rw [hf x hx] at hp; cases hp
   | some j =>
    rw [hf] at hi
    simp at hi
    simp; omega
  ·have ha' : z.any noDigit = false := by simpa using ha
   rw [ha']
   have hf : z.findIdx? noDigit = none := by
    rw [List.findIdx?_eq_none_iff]; intro x hx; rw [List.any_eq_false] at ha'
    simpa using ha' x hx
   rw [hf] at hi
   simp at hi
   simp; omega
 subst hr; have F := aM A; have HI := aM hi; have HC := aM B; clear A hi B h
 go_enter Try.func64, Try.ntmps64
 go_wp2_with (go_at_call 88; (with_reducible refine (slices_IndexFunc_int_int.calls _ _ z i _ F.out HC.out HI.out).mono ?_); rintro e w' ⟨rfl, hd⟩; have HD := aM hd; clear hd)
 go_ret
 exact ⟨rfl, HD.out⟩

/-! ### word_Number_1: function 65 -/
def word_Number_1.f (a0 : Int) : Option (Bool) := if a0 = 0 then (some false) else (some (a0 != 1))
theorem word_Number_1.calls (A : Int) (r : Bool) (w : World) (h : word_Number_1.f A = some r) :
  Calls Try.prog 65 #[.int .i64 A] w fun e w' => e = .returned (.bool r) ∧ Drawn0 w w' := by
 rw [word_Number_1.f] at h; have H := h; clear h
 by_cases z : A = 0
 ·rw [if_pos z] at H; obtain ⟨B, D⟩ := bq z; clear z; obtain rfl := Option.some.inj H
  go_enter Try.func65, Try.ntmps65
  go_wp2
  go_ret
  exact ⟨by first | rfl | (simp; done) | (simp [*]; done), by repeat (first | exact Drawn0.refl _ | apply Drawn0.step)⟩
 ·rw [if_neg z] at H; obtain ⟨B, D⟩ := bn z; obtain rfl := Option.some.inj H
  go_enter Try.func65, Try.ntmps65
  go_wp2
  go_ret
  exact ⟨by first | rfl | (simp; done) | (simp [*]; done), by repeat (first | exact Drawn0.refl _ | apply Drawn0.step)⟩

end Go.Proofs.Ythgoonohpfoagaa.X
namespace Go.Proofs.Ythgoonohpfoagaa.X
open Go.RowKit Go.Proofs.YthgoonohpfoagaaW.PrintWords Go.Proofs.YthgoonohpfoagaaW.PrintLast Go.Proofs.YthgoonohpfoagaaW.PrintMore
attribute [local go_sem] max2_int min2_int max_two min_two max_three min_three max_four min_four
set_option linter.unusedVariables false
set_option linter.unusedSimpArgs false
set_option maxHeartbeats 8000000
set_option maxRecDepth 100000

/-! ### word_Number: function 39 -/
mutual
def word_Number.j0 : Nat → List Int → Bool → Option (Int × Int)
 | 0, _, _ => none
 | k + 1, x0, x14 => if x14 = true then (some (0, 3)) else (if (x0.length : Int) > 64 then (some (0, 31)) else (word_Number.l0 k x0 0 x0 (x0.length : Int) 0))
def word_Number.l0 : Nat → List Int → Int → List Int → Int → Int → Option (Int × Int)
 | 0, _, _, _, _, _ => none
 | k + 1, x0, x4, x18, x19, x20 => if x20 < x19 then (if 0 ≤ x20 then (if x20 < (x18.length : Int) then (word_Number.l0 k x0 (Go.bits .or .i64 x4 (shl .i64 (rd x18 x20) x20)) x18 x19 (wrap64 (x20 + 1))) else (none)) else (none)) else (if 0 ≤ (wrap64 (64 - (x0.length : Int))) then (some (shr .i64 (shl .i64 x4 (wrap64 (64 - (x0.length : Int)))) (wrap64 (64 - (x0.length : Int))), 0)) else (none))
end
def word_Number.f (k : Nat) (l0 : List Int) : Option (Int × Int) := if (l0.length : Int) = 0 then (word_Number.j0 k l0 true) else ((slices_ContainsFunc_int_int.f l0).bind fun t345 => (word_Number.j0 k l0 t345))
theorem word_Number.mono_l : ∀ k, (∀ y0 y1, LeO (word_Number.j0 k y0 y1) (word_Number.j0 (k + 1) y0 y1)) ∧ (∀ y0 y1 y2 y3 y4, LeO (word_Number.l0 k y0 y1 y2 y3 y4) (word_Number.l0 (k + 1) y0 y1 y2 y3 y4))
 | 0 => ⟨fun _ _ r h => by simp [word_Number.j0] at h, fun _ _ _ _ _ r h => by simp [word_Number.l0] at h⟩
 | k + 1 => by
  obtain ⟨ih0, ih1⟩ := word_Number.mono_l k; refine ⟨?_, ?_⟩
  ·intro y0 y1
   unfold word_Number.j0
   repeat' first | (with_reducible first | exact ih0 _ _ | exact ih1 _ _ _ _ _ | exact lA | apply lI | refine lB ?_ fun _ => ?_) | exact lN _ | apply lI | refine lB ?_ fun _ => ?_
  ·intro y0 y1 y2 y3 y4
   unfold word_Number.l0
   repeat' first | (with_reducible first | exact ih0 _ _ | exact ih1 _ _ _ _ _ | exact lA | apply lI | refine lB ?_ fun _ => ?_) | exact lN _ | apply lI | refine lB ?_ fun _ => ?_
theorem word_Number.mono : ∀ a0 k, LeO (word_Number.f k a0) (word_Number.f (k + 1) a0) := by
 intro a0 k; obtain ⟨ih0, ih1⟩ := word_Number.mono_l k
 unfold word_Number.f
 repeat' first | (with_reducible first | exact ih0 _ _ | exact ih1 _ _ _ _ _ | exact lA | apply lI | refine lB ?_ fun _ => ?_) | exact lN _ | apply lI | refine lB ?_ fun _ => ?_
theorem word_Number.calls (k : Nat) (A0 : Option Addr) (c0 : Nat) (B : List Int) (r1 : Int) (r2 : Int) (w : World) (ah : Kd.C (Kd.int .i64) w A0 B.length B) (ai : B.length ≤ c0) (h : word_Number.f k B = some (r1, r2)) :
  Calls Try.prog 39 #[.slice A0 B.length c0] w fun e w' => e = .returned (.tuple #[.int .i64 r1, .int .i64 r2]) ∧ Drawn0 w w' := by
 have aj := aM ah; have aw := aM ai; clear ah ai; rw [word_Number.f] at h; have H := h; clear h; have W := aM H; clear H
 go_enter Try.func39, Try.ntmps39
 go_upto_region 1 with (fail)
 go_cut [14] (fun ax wc => ∃ (kq : Nat) (J : Bool), ax = .bool J ∧ Aside0 (word_Number.j0 kq B J = some (r1, r2)) ∧ Aside0 (kq ≤ k) ∧ Drawn0 w wc)
 case first =>
  have H := W.out; clear W
  by_cases R : (B.length : Int) = 0
  ·rw [if_pos R] at H; obtain ⟨M, am⟩ := bq R; clear R
   (first | rw [M] | (simp only [i64_w, i32_w]; rw [M]) | skip)
   have H' := aM H; clear H
   go_wp2
   go_meet
   case rel => exact ⟨_, (true), sI, H', ⟨by first | omega | exact Nat.le_refl _⟩, by repeat (first | exact Drawn0.refl _ | apply Drawn0.step)⟩
  ·rw [if_neg R] at H; obtain ⟨M, am⟩ := bn R
   have aF : ¬ (B = []) := fun h_ => R (by rw [h_]; rfl)
   (first | rw [M] | (simp only [i64_w, i32_w]; rw [M]) | skip)
   replace H := Option.bind_eq_some_iff.mp H; obtain ⟨Y, ak, H⟩ := H; have A4 := aM ak; clear ak; have H' := aM H; clear H
   go_wp2_with (first | (go_at_call 64; (with_reducible refine (slices_ContainsFunc_int_int.calls _ _ B  Y _ ?s1 aw.out A4.out).mono ?_); (case s1 => exact cO aj.out); rintro e w' ⟨rfl, ⟨nd, rfl⟩⟩))
   go_meet
   case rel => exact ⟨_, (Y), sI, H', ⟨by first | omega | exact Nat.le_refl _⟩, by repeat (first | exact Drawn0.refl _ | apply Drawn0.step)⟩
 case rest =>
  clear W
  obtain ⟨kq, J, rfl, HA, HJ1, ⟨mc1, rfl⟩⟩ := hcut; cases kq with
  | zero => exact absurd HA.out (by simp [word_Number.j0])
  | succ al =>
   have H := HA.out; clear HA; simp only [word_Number.j0] at H
   by_cases c5 : J = true
   ·subst c5
    rw [if_pos rfl] at H; simp only [Option.some.injEq, Prod.mk.injEq] at H; obtain ⟨rfl, rfl⟩ := H
    go_wp2
    go_ret2
    exact ⟨by first | rfl | (simp; done) | (simp [*]; done), by repeat (first | exact Drawn0.refl _ | apply Drawn0.step)⟩
   ·replace c5 := Bool.eq_false_iff.mpr c5; subst c5
    rw [if_neg nF] at H
    by_cases U : (B.length : Int) > 64
    ·rw [if_pos U] at H; have an := dT U; have ao : decide (64 < B.length) = true := dT (by omega); clear U; simp only [Option.some.injEq, Prod.mk.injEq] at H; obtain ⟨rfl, rfl⟩ := H
     go_wp2
     go_ret2
     exact ⟨by first | rfl | (simp; done) | (simp [*]; done), by repeat (first | exact Drawn0.refl _ | apply Drawn0.step)⟩
    ·rw [if_neg U] at H; have an := decide_eq_false U; have ao : decide (64 < B.length) = false := decide_eq_false (by omega); clear U; have H' := aM H; clear H
     go_wp2
     go_loopg [4, 20] al (fun kq v4 ay w' => ∃ (D : Int) (z : Int), v4 = .int .i64 D ∧ ay = .int .i64 z ∧ Aside0 (word_Number.l0 kq B D B (B.length : Int) z = some (r1, r2)) ∧ Aside0 (kq ≤ al) ∧ Drawn0 w w')
     case atStart => exact ⟨(0), (0), sI, sI, H', ⟨Nat.le_refl _⟩, by repeat (first | exact Drawn0.refl _ | apply Drawn0.step)⟩
     case round =>
      clear H'
      obtain ⟨D, z, rfl, rfl, HA, HK2, ⟨m2, rfl⟩⟩ := hrel; cases gk with
      | zero => exact absurd HA.out (by simp [word_Number.l0])
      | succ k2 =>
       have H := HA.out; clear HA; simp only [word_Number.l0] at H
       by_cases V : z < (B.length : Int)
       ·rw [if_pos V] at H; have ap := dT V; clear V
        by_cases c8 : 0 ≤ z
        ·rw [if_pos c8] at H; have aI := dT c8; clear c8
         by_cases c9 : z < (B.length : Int)
         ·rw [if_pos c9] at H; have aJ := dT c9; clear c9; have aA := eq_true (oT aO : 0 ≤ z); obtain ⟨N, F⟩ : ∃ j_ : Int, (shl .i64 (rd B z) z) = j_ := ⟨_, rfl⟩
          first | rw [F] at H | simp only [F] at H
          have Z : (IntKind.i64.wrap ((rd B z) * 2 ^ min z.toNat 64)) = N := F; have hji11z : z ≤ 64 → (IntKind.i64.wrap ((rd B z) * 2 ^ z.toNat)) = N := shl_small F; have hji11y : (wrap64 ((rd B z) * 2 ^ min z.toNat 64)) = N := (i64_w _).symm.trans Z
          have hji11x : z ≤ 64 → (wrap64 ((rd B z) * 2 ^ z.toNat)) = N := fun h_ => (i64_w _).symm.trans (hji11z h_)
          have H' := aM H; clear H; have P : 0 ≤ (z : Int) := oT aO; have Q : z < (B.length : Int) := oT aO; obtain ⟨aB, aq, ar⟩ := Kd.at_int aj.out z P Q; cases aq; replace P := eq_true P; replace Q := eq_true Q
          go_wp2
          go_roundg k2
          case measure => have := HJ1.out; have := HK2.out; omega
          case rel => exact ⟨(Go.bits .or .i64 D (N)), (wrap64 (z + 1)), (by first | rfl | (simp; done) | (simp only [← F] <;> (first | rfl | simp)) | (simp [*]; done)), sI, H', ⟨by have := HJ1.out; have := HK2.out; omega⟩, by repeat (first | exact Drawn0.refl _ | apply Drawn0.step)⟩
         ·exact nX c9 H
        ·exact nX c8 H
       ·rw [if_neg V] at H; have ap := decide_eq_false V; clear V; obtain ⟨A, L⟩ : ∃ j_ : Int, (wrap64 (64 - (B.length : Int))) = j_ := ⟨_, rfl⟩
        first | rw [L] at H | simp only [L] at H
        have hji12w : (IntKind.i64.wrap (64 - (B.length : Int))) = A := (i64_w _).trans L
        by_cases O : 0 ≤ (A)
        ·rw [if_pos O] at H; have aC := eq_true O; have aD := dT O; clear O; obtain ⟨E, G⟩ : ∃ j_ : Int, (shl .i64 D (A)) = j_ := ⟨_, rfl⟩
         first | rw [G] at H | simp only [G] at H
         have aa : (IntKind.i64.wrap (D * 2 ^ min (A).toNat 64)) = E := G; have hji14z : (A) ≤ 64 → (IntKind.i64.wrap (D * 2 ^ (A).toNat)) = E := shl_small G; have hji14y : (wrap64 (D * 2 ^ min (A).toNat 64)) = E := (i64_w _).symm.trans aa
         have hji14x : (A) ≤ 64 → (wrap64 (D * 2 ^ (A).toNat)) = E := fun h_ => (i64_w _).symm.trans (hji14z h_)
         have aE := eq_true (oT aO : 0 ≤ (A)); obtain ⟨ab, I⟩ : ∃ j_ : Int, (shr .i64 (E) (A)) = j_ := ⟨_, rfl⟩
         first | rw [I] at H | simp only [I] at H
         have az : ((E) / 2 ^ min (A).toNat 64) = ab := I; have hji16z : (A) ≤ 64 → ((E) / 2 ^ (A).toNat) = ab := shr_small I; simp only [Option.some.injEq, Prod.mk.injEq] at H; obtain ⟨rfl, rfl⟩ := H
         go_wp2
         go_ret2
         exact ⟨by first | rfl | (simp; done) | (simp only [← L, ← G, ← I] <;> (first | rfl | simp)) | (simp [*]; done), by repeat (first | exact Drawn0.refl _ | apply Drawn0.step)⟩
        ·exact nX O H

end Go.Proofs.Ythgoonohpfoagaa.X
namespace Go.Proofs.Ythgoonohpfoagaa.X
open Go.RowKit Go.Proofs.YthgoonohpfoagaaW.PrintWords Go.Proofs.YthgoonohpfoagaaW.PrintLast Go.Proofs.YthgoonohpfoagaaW.PrintMore
attribute [local go_sem] max2_int min2_int max_two min_two max_three min_three max_four min_four
set_option linter.unusedVariables false
set_option linter.unusedSimpArgs false
set_option maxHeartbeats 8000000
set_option maxRecDepth 100000

/-! ### word_Decode: function 22 -/
mutual
def word_Decode.j0 : Nat → List Int → Int → Bool → Option (List Int × Int)
 | 0, _, _, _ => none
 | k + 1, x0, x1, x13 => if x13 = true then (some (([] : List Int), 150)) else (if (x0.length : Int) = 0 then (some (([] : List Int), 3)) else (if (x0.length : Int) > 64 then (some (([] : List Int), 31)) else (word_Decode.l0 k x0 x1 x0 (x0.length : Int) 0)))
def word_Decode.l0 : Nat → List Int → Int → List Int → Int → Int → Option (List Int × Int)
 | 0, _, _, _, _, _ => none
 | k + 1, x0, x1, x28, x29, x30 => if x30 < x29 then (if 0 ≤ x30 then (if x30 < (x28.length : Int) then (if (rd x28 x30) < 0 then (some (([] : List Int), 30)) else (if 0 ≤ x1 then (if (rd x28 x30) ≥ (shl .i64 1 x1) then (some (([] : List Int), 30)) else (word_Decode.l0 k x0 x1 x28 x29 (wrap64 (x30 + 1)))) else (none))) else (none)) else (none)) else (if 0 ≤ x1 then (if (x1 : Int).toNat ≤ 35184372088832 then ((some (List.replicate (x1 : Int).toNat 0 : List Int)).bind fun y348 => (if 0 ≤ (x0.length : Int) then (if ((x0.length : Int) : Int).toNat ≤ 35184372088832 then (word_Decode.l1 k x0 y348 (List.replicate ((x0.length : Int) : Int).toNat 0) (y348.length : Int) 0) else (none)) else (none))) else (none)) else (none))
def word_Decode.l1 : Nat → List Int → List Int → List Int → Int → Int → Option (List Int × Int)
 | 0, _, _, _, _, _ => none
 | k + 1, x0, x8, x9, x49, x50 => if x50 < x49 then (word_Decode.l2 k x0 x8 x9 x50 x49 x50 x0 (x0.length : Int) 0) else (some (x8, 0))
def word_Decode.l2 : Nat → List Int → List Int → List Int → Int → Int → Int → List Int → Int → Int → Option (List Int × Int)
 | 0, _, _, _, _, _, _, _, _, _ => none
 | k + 1, x0, x8, x9, x10, x49, x50, x53, x54, x55 => if x55 < x54 then (if 0 ≤ x55 then (if x55 < (x53.length : Int) then ((bits_Digit.f (rd x53 x55) x10).bind fun t355 => (if x55 < (x9.length : Int) then (word_Decode.l2 k x0 x8 (x9.set (x55 : Int).toNat t355) x10 x49 x50 x53 x54 (wrap64 (x55 + 1))) else (none))) else (none)) else (none)) else ((word_Number.f k x9).bind fun bt357 => (if 0 ≤ x10 then (if x10 < (x8.length : Int) then (word_Decode.l1 k x0 (x8.set (x10 : Int).toNat bt357.1) x9 x49 (wrap64 (x50 + 1))) else (none)) else (none)))
end
def word_Decode.f (k : Nat) (l0 : List Int) (a1 : Int) : Option (List Int × Int) := if a1 < 0 then (word_Decode.j0 k l0 a1 true) else (word_Decode.j0 k l0 a1 (decide (a1 > 6)))
theorem word_Decode.mono_l : ∀ k, (∀ y0 y1 y2, LeO (word_Decode.j0 k y0 y1 y2) (word_Decode.j0 (k + 1) y0 y1 y2)) ∧ (∀ y0 y1 y2 y3 y4, LeO (word_Decode.l0 k y0 y1 y2 y3 y4) (word_Decode.l0 (k + 1) y0 y1 y2 y3 y4)) ∧ (∀ y0 y1 y2 y3 y4, LeO (word_Decode.l1 k y0 y1 y2 y3 y4) (word_Decode.l1 (k + 1) y0 y1 y2 y3 y4)) ∧ (∀ y0 y1 y2 y3 y4 y5 y6 y7 y8, LeO (word_Decode.l2 k y0 y1 y2 y3 y4 y5 y6 y7 y8) (word_Decode.l2 (k + 1) y0 y1 y2 y3 y4 y5 y6 y7 y8))
 | 0 => ⟨fun _ _ _ r h => by simp [word_Decode.j0] at h, fun _ _ _ _ _ r h => by simp [word_Decode.l0] at h, fun _ _ _ _ _ r h => by simp [word_Decode.l1] at h, fun _ _ _ _ _ _ _ _ _ r h => by simp [word_Decode.l2] at h⟩
 | k + 1 => by
  obtain ⟨ih0, ih1, ih2, ih3⟩ := word_Decode.mono_l k; refine ⟨?_, ?_, ?_, ?_⟩
  ·intro y0 y1 y2
   unfold word_Decode.j0
   repeat' first | (with_reducible first | exact ih0 _ _ _ | exact ih1 _ _ _ _ _ | exact ih2 _ _ _ _ _ | exact ih3 _ _ _ _ _ _ _ _ _ | exact word_Number.mono _ _ | exact lA | apply lI | refine lB ?_ fun _ => ?_) | exact lN _ | apply lI | refine lB ?_ fun _ => ?_
  ·intro y0 y1 y2 y3 y4
   unfold word_Decode.l0
   repeat' first | (with_reducible first | exact ih0 _ _ _ | exact ih1 _ _ _ _ _ | exact ih2 _ _ _ _ _ | exact ih3 _ _ _ _ _ _ _ _ _ | exact word_Number.mono _ _ | exact lA | apply lI | refine lB ?_ fun _ => ?_) | exact lN _ | apply lI | refine lB ?_ fun _ => ?_
  ·intro y0 y1 y2 y3 y4
   unfold word_Decode.l1
   repeat' first | (with_reducible first | exact ih0 _ _ _ | exact ih1 _ _ _ _ _ | exact ih2 _ _ _ _ _ | exact ih3 _ _ _ _ _ _ _ _ _ | exact word_Number.mono _ _ | exact lA | apply lI | refine lB ?_ fun _ => ?_) | exact lN _ | apply lI | refine lB ?_ fun _ => ?_
  ·intro y0 y1 y2 y3 y4 y5 y6 y7 y8
   unfold word_Decode.l2
   repeat' first | (with_reducible first | exact ih0 _ _ _ | exact ih1 _ _ _ _ _ | exact ih2 _ _ _ _ _ | exact ih3 _ _ _ _ _ _ _ _ _ | exact word_Number.mono _ _ | exact lA | apply lI | refine lB ?_ fun _ => ?_) | exact lN _ | apply lI | refine lB ?_ fun _ => ?_
theorem word_Decode.mono : ∀ a0 a1 k, LeO (word_Decode.f k a0 a1) (word_Decode.f (k + 1) a0 a1) := by
 intro a0 a1 k; obtain ⟨ih0, ih1, ih2, ih3⟩ := word_Decode.mono_l k
 unfold word_Decode.f
 repeat' first | (with_reducible first | exact ih0 _ _ _ | exact ih1 _ _ _ _ _ | exact ih2 _ _ _ _ _ | exact ih3 _ _ _ _ _ _ _ _ _ | exact word_Number.mono _ _ | exact lA | apply lI | refine lB ?_ fun _ => ?_) | exact lN _ | apply lI | refine lB ?_ fun _ => ?_
theorem word_Decode.calls (k : Nat) (A0 : Option Addr) (c0 : Nat) (G : List Int) (P : Int) (r1 : List Int) (r2 : Int) (w : World) (bv : Kd.C (Kd.int .i64) w A0 G.length G) (bw : G.length ≤ c0) (h : word_Decode.f k G P = some (r1, r2)) :
  Calls Try.prog 22 #[.slice A0 G.length c0, .int .i64 P] w fun e w' => ∃ bx : Value, e = .returned (.tuple #[bx, .int .i64 r2]) ∧ Kd.R (Kd.int .i64) 2 w' w.heap.size (fun _ => True) bx r1 ∧ Below w.heap.size w w' := by
 have aJ := aM bv; have ch := aM bw; clear bv bw; have HB := aM (Below.refl w.heap.size w); rw [word_Decode.f] at h; have H := h; clear h; have aX := aM H; clear H
 go_enter Try.func22, Try.ntmps22
 go_upto_region 1 with (fail)
 go_cut [13] (fun bM wc => ∃ (kq : Nat) (Y : Bool), bM = .bool Y ∧ Aside0 (word_Decode.j0 kq G P Y = some (r1, r2)) ∧ Aside0 (kq ≤ k) ∧ BA w wc)
 case first =>
  have H := aX.out; clear aX
  by_cases c4 : P < 0
  ·rw [if_pos c4] at H; have ae := dT c4; clear c4
   (first | rw [ae] | (simp only [i64_w, i32_w]; rw [ae]) | skip)
   have H' := aM H; clear H
   go_wp2
   go_meet
   case rel => exact ⟨_, (true), sI, H', ⟨by first | omega | exact Nat.le_refl _⟩, bT0 HB⟩
  ·rw [if_neg c4] at H; have ae := decide_eq_false c4; clear c4
   (first | rw [ae] | (simp only [i64_w, i32_w]; rw [ae]) | skip)
   have H' := aM H; clear H
   go_wp2
   go_meet
   case rel => exact ⟨_, (decide (P > 6)), sI, H', ⟨by first | omega | exact Nat.le_refl _⟩, bT0 HB⟩
 case rest =>
  clear aX
  obtain ⟨kq, Y, rfl, HA, HJ2, HB⟩ := hcut; cases kq with
  | zero => exact absurd HA.out (by simp [word_Decode.j0])
  | succ bz =>
   have H := HA.out; clear HA; simp only [word_Decode.j0] at H
   by_cases c5 : Y = true
   ·subst c5
    rw [if_pos rfl] at H; simp only [Option.some.injEq, Prod.mk.injEq] at H; obtain ⟨rfl, rfl⟩ := H
    go_wp2
    go_ret2
    exact ⟨_, eW, by first | exact Kd.R_nil _ _ _ _ _ | exact Kd.N_nil _ _ _ _ _ | exact Kd.V_nil _ _ _ _ _ | exact Kd.Q_nil _ _ _ _ _ | exact Kd.S_nil _ _ _ _ _, bO HB.out⟩
   ·replace c5 := Bool.eq_false_iff.mpr c5; subst c5
    rw [if_neg nF] at H
    by_cases c6 : (G.length : Int) = 0
    ·rw [if_pos c6] at H; obtain ⟨bA, bB⟩ := bq c6; clear c6; simp only [Option.some.injEq, Prod.mk.injEq] at H; obtain ⟨rfl, rfl⟩ := H
     go_wp2
     go_ret2
     exact ⟨_, eW, by first | exact Kd.R_nil _ _ _ _ _ | exact Kd.N_nil _ _ _ _ _ | exact Kd.V_nil _ _ _ _ _ | exact Kd.Q_nil _ _ _ _ _ | exact Kd.S_nil _ _ _ _ _, bO HB.out⟩
    ·rw [if_neg c6] at H; obtain ⟨bA, bB⟩ := bn c6
     have cd : ¬ (G = []) := fun h_ => c6 (by rw [h_]; rfl)
     by_cases c7 : (G.length : Int) > 64
     ·rw [if_pos c7] at H; have bC := dT c7; have bD : decide (64 < G.length) = true := dT (by omega); clear c7; simp only [Option.some.injEq, Prod.mk.injEq] at H; obtain ⟨rfl, rfl⟩ := H
      go_wp2
      go_ret2
      exact ⟨_, eW, by first | exact Kd.R_nil _ _ _ _ _ | exact Kd.N_nil _ _ _ _ _ | exact Kd.V_nil _ _ _ _ _ | exact Kd.Q_nil _ _ _ _ _ | exact Kd.S_nil _ _ _ _ _, bO HB.out⟩
     ·rw [if_neg c7] at H; have bC := decide_eq_false c7; have bD : decide (64 < G.length) = false := decide_eq_false (by omega); clear c7; have H' := aM H; clear H
      go_wp2
      go_loopg [30] bz (fun kq bN w' => ∃ (B : Int), bN = .int .i64 B ∧ Aside0 (word_Decode.l0 kq G P G (G.length : Int) B = some (r1, r2)) ∧ Aside0 (kq ≤ bz) ∧ BA w w')
      case atStart => exact ⟨(0), sI, H', ⟨Nat.le_refl _⟩, bT0 HB⟩
      case round =>
       clear H'
       obtain ⟨B, rfl, HA, HK2, HB⟩ := hrel; cases gk with
       | zero => exact absurd HA.out (by simp [word_Decode.l0])
       | succ k2 =>
        have H := HA.out; clear HA; simp only [word_Decode.l0] at H
        by_cases c8 : B < (G.length : Int)
        ·rw [if_pos c8] at H; have bE := dT c8; clear c8
         by_cases c9 : 0 ≤ B
         ·rw [if_pos c9] at H; have ce := dT c9; clear c9
          by_cases aK : B < (G.length : Int)
          ·rw [if_pos aK] at H; have bV := dT aK; clear aK
           by_cases ah : (rd G B) < 0
           ·rw [if_pos ah] at H; have bj := dT ah; clear ah; simp only [Option.some.injEq, Prod.mk.injEq] at H; obtain ⟨rfl, rfl⟩ := H; have M : 0 ≤ (B : Int) := oT aO; have O : B < (G.length : Int) := oT aO; obtain ⟨aL, af, L⟩ := Kd.at_int aJ.out B M O; cases af; replace L := cX HB L; replace M := eq_true M; replace O := eq_true O
            go_wp2
            go_ret2
            exact ⟨_, eW, by first | exact Kd.R_nil _ _ _ _ _ | exact Kd.N_nil _ _ _ _ _ | exact Kd.V_nil _ _ _ _ _ | exact Kd.Q_nil _ _ _ _ _ | exact Kd.S_nil _ _ _ _ _, bO HB.out⟩
           ·rw [if_neg ah] at H; have bj := decide_eq_false ah; clear ah
            by_cases av : 0 ≤ P
            ·rw [if_pos av] at H; have bW := eq_true av; have bX := dT av; clear av; obtain ⟨Q, U⟩ : ∃ j_ : Int, (shl .i64 1 P) = j_ := ⟨_, rfl⟩
             first | rw [U] at H | simp only [U] at H
             have aw : (IntKind.i64.wrap (1 * 2 ^ min P.toNat 64)) = Q := U; have hji13z : P ≤ 64 → (IntKind.i64.wrap (1 * 2 ^ P.toNat)) = Q := shl_small U
             have hji13u : (IntKind.i64.wrap (2 ^ min P.toNat 64)) = Q := by have h_ := aw; rw [Int.one_mul] at h_; exact h_
             have hji13v : P ≤ 64 → (IntKind.i64.wrap (2 ^ P.toNat)) = Q := fun hle_ => by have h_ := hji13z hle_; rw [Int.one_mul] at h_; exact h_
             have hji13y : (wrap64 (1 * 2 ^ min P.toNat 64)) = Q := (i64_w _).symm.trans aw
             have hji13x : P ≤ 64 → (wrap64 (1 * 2 ^ P.toNat)) = Q := fun h_ => (i64_w _).symm.trans (hji13z h_)
             by_cases ai : (rd G B) ≥ (Q)
             ·rw [if_pos ai] at H; have bk := dT ai; clear ai; simp only [Option.some.injEq, Prod.mk.injEq] at H; obtain ⟨rfl, rfl⟩ := H; have M : 0 ≤ (B : Int) := oT aO; have O : B < (G.length : Int) := oT aO; obtain ⟨aL, af, L⟩ := Kd.at_int aJ.out B M O; cases af; replace L := cX HB L; replace M := eq_true M; replace O := eq_true O
              go_wp2
              go_ret2
              exact ⟨_, by first | rfl | (simp [errW_none, errW_some] <;> rfl) | (simp only [← U]; first | rfl | (simp [errW_none, errW_some] <;> rfl)) | (simp [*, errW_none, errW_some] <;> rfl), by first | exact Kd.R_nil _ _ _ _ _ | exact Kd.N_nil _ _ _ _ _ | exact Kd.V_nil _ _ _ _ _ | exact Kd.Q_nil _ _ _ _ _ | exact Kd.S_nil _ _ _ _ _, bO HB.out⟩
             ·rw [if_neg ai] at H; have bk := decide_eq_false ai; clear ai; have H' := aM H; clear H; have M : 0 ≤ (B : Int) := oT aO; have O : B < (G.length : Int) := oT aO; obtain ⟨aL, af, L⟩ := Kd.at_int aJ.out B M O; cases af; replace L := cX HB L; replace M := eq_true M; replace O := eq_true O
              go_wp2
              go_roundg k2
              case measure => have := HJ2.out; have := HK2.out; omega
              case rel => exact ⟨(wrap64 (B + 1)), sI, H', ⟨by have := HJ2.out; have := HK2.out; omega⟩, bT0 HB⟩
            ·exact nX av H
          ·exact nX aK H
         ·exact nX c9 H
        ·rw [if_neg c8] at H; have bE := decide_eq_false c8; clear c8
         by_cases ax : 0 ≤ P
         ·rw [if_pos ax] at H; have bY := eq_true ax; have bZ := dT ax; clear ax
          by_cases ay : (P : Int).toNat ≤ 35184372088832
          ·rw [if_pos ay] at H; have b0 := eq_true ay; have b1 := dT ay; clear ay; obtain ⟨V, Z⟩ : ∃ y_ : List Int, y_ = (List.replicate (P : Int).toNat 0) := ⟨_, rfl⟩
           first | replace H := rI Z H | rw [← Z] at H
           have bl := aM Z; clear Z
           by_cases az : 0 ≤ (G.length : Int)
           ·rw [if_pos az] at H; have b2 := eq_true az; have b3 := dT az; clear az
            by_cases aA : ((G.length : Int) : Int).toNat ≤ 35184372088832
            ·rw [if_pos aA] at H; have b4 := eq_true aA; have b5 := dT aA; clear aA; obtain ⟨bF, aa⟩ : ∃ y_ : List Int, y_ = (List.replicate ((G.length : Int) : Int).toNat 0) := ⟨_, rfl⟩
             first | replace H := rI aa H | rw [← aa] at H
             have bm := aM aa; clear aa; have H' := aM H; clear H
             go_wp2_with (first | ((with_reducible refine gate_dst (N := 44) rfl ?_); refine Kd.R_make (Kd.int .i64) _ 2 rfl (N := 44) rfl 24 _ _ rfl P rfl rfl Try.underlying24 (.int .i64 0) 8 info2 rfl (by decide) (by omega) 0 (ok := fun _ => True) (okp := fun _ => True) rfl (fun _ hk => hk) trivial (oT aO) (Nat.le_trans (Nat.mul_le_mul_right _ (oT aO : P.toNat ≤ 35184372088832)) (by omega)) (Below.refl _ _) (Nat.le_refl _) ?_; intro cf ci am hb hg_ hnew_; clear hg_ hnew_; replace am := nW bl am; have ab := rW am (bP0 HB); replace HB := hS0 HB hb; clear hb am) | ((with_reducible refine gate_dst (N := 47) rfl ?_); refine Kd.R_make (Kd.int .i64) _ 3 rfl (N := 47) rfl 42 _ _ rfl (G.length : Int) rfl rfl Try.underlying42 (.int .i64 0) 8 info3 rfl (by decide) (by omega) 0 (ok := fun _ => True) (okp := fun _ => True) rfl (fun _ hk => hk) trivial (oT aO) (Nat.le_trans (Nat.mul_le_mul_right _ (oT aO : (G.length : Int).toNat ≤ 35184372088832)) (by omega)) (Below.refl _ _) (Nat.le_refl _) ?_; intro aG cj an hb hg_ hnew_; clear hg_ hnew_; replace an := nW bm an; replace ab := rB ab hb; have bo := rW an (bP0 HB); replace HB := hS0 HB hb; clear hb an; obtain ⟨ao, W, bG⟩ := sL ab; subst bG))
             go_loopg [50] k2 (fun kq bP w' => ∃ (I : List Int) (ap : List Int) (z : Int), bP = .int .i64 z ∧ Aside0 (word_Decode.l1 kq G I ap (V.length : Int) z = some (r1, r2)) ∧ Aside0 (kq ≤ k2) ∧ RA (Kd.int .i64) 2 w' w (.slice ao V.length W) I ∧ RA (Kd.int .i64) 3 w' w aG ap ∧ BA w w')
             case atStart => exact ⟨(V), (bF), (0), sI, H', ⟨Nat.le_refl _⟩, rQ ab, rQ bo, bT0 HB⟩
             case round =>
              clear H'
              obtain ⟨I, ap, z, rfl, HA, HK3, F, D, HB⟩ := hrel; have E := (rR F).1; rw [E] at F
              (try simp only [E])
              (try simp only [E] at D)
              cases gk with
              | zero => exact absurd HA.out (by simp [word_Decode.l1])
              | succ k3 =>
               have H := HA.out; clear HA; simp only [word_Decode.l1] at H
               by_cases aj : z < (V.length : Int)
               ·rw [if_pos aj] at H; have aq := dT aj
                (try (have c24b0hl8_3 := aq; rw [E] at c24b0hl8_3))
                clear aj; have H' := aM H; clear H
                go_wp2
                go_loopg [55] k3 (fun kq bQ w' => ∃ (J : List Int) (A : Int), bQ = .int .i64 A ∧ Aside0 (word_Decode.l2 kq G I J z (V.length : Int) z G (G.length : Int) A = some (r1, r2)) ∧ Aside0 (kq ≤ k3) ∧ RA (Kd.int .i64) 2 w' w (.slice ao I.length W) I ∧ RA (Kd.int .i64) 3 w' w aG J ∧ BA w w')
                case atStart => exact ⟨(ap), (0), sI, H', ⟨Nat.le_refl _⟩, ⟨by (try simp only [E]); (with_reducible repeat (first | apply Kd.R_alloc | apply Kd.R_drewN | apply Kd.R_drew)); exact F.out⟩, ⟨by (try simp only [E]); (with_reducible repeat (first | apply Kd.R_alloc | apply Kd.R_drewN | apply Kd.R_drew)); exact D.out⟩, bT0 HB⟩
                case round =>
                 clear H'
                 obtain ⟨J, A, rfl, HA, HK4, F, D, HB⟩ := hrel; cases gk with
                 | zero => exact absurd HA.out (by simp [word_Decode.l2])
                 | succ k4 =>
                  have H := HA.out; clear HA; simp only [word_Decode.l2] at H
                  by_cases ak : A < (G.length : Int)
                  ·rw [if_pos ak] at H; have ar := dT ak
                   (try (have c25b0hl8_3 := ar; rw [E] at c25b0hl8_3))
                   clear ak
                   by_cases aN : 0 ≤ A
                   ·rw [if_pos aN] at H; have b6 := dT aN; clear aN
                    by_cases aP : A < (G.length : Int)
                    ·rw [if_pos aP] at H; have bp := dT aP
                     (try (have c27b0hl8_3 := bp; rw [E] at c27b0hl8_3))
                     clear aP; replace H := Option.bind_eq_some_iff.mp H; obtain ⟨au, aY, H⟩ := H; have bR := aM aY; clear aY
                     by_cases aQ : A < (J.length : Int)
                     ·rw [if_pos aQ] at H; have br := dT aQ
                      (try (have c29b0hl8_3 := br; rw [E] at c29b0hl8_3))
                      clear aQ; obtain ⟨aZ, ac⟩ : ∃ y_ : List Int, y_ = (J.set (A : Int).toNat au) := ⟨_, rfl⟩
                      first | replace H := rI ac H | rw [← ac] at H
                      have bs := aM ac; clear ac; have H' := aM H; clear H; have aH : 0 ≤ (A : Int) := oT aO; have aI : A < (G.length : Int) := oT aO; obtain ⟨b7, bH, al⟩ := Kd.at_int aJ.out A aH aI; cases bH; replace al := cX HB al; replace aH := eq_true aH; replace aI := eq_true aI
                      go_wp2_with (first | ((with_reducible refine gate_callee (f := 38) rfl ?_); refine gL_ (some 64) Try.func38 #[.int .i64 (rd G A), .int .i64 z] ?_; (with_reducible refine (bits_Digit.calls (rd G A) z au _ bR.out).mono ?_); rintro e w' ⟨rfl, ⟨nd, rfl⟩⟩; refine ⟨_, rfl, ?_⟩; (try (rw [drewN_self wr]; generalize hq_ : World.drewN wr _ = wr; have aB : RA (Kd.int .i64) 2 wr w (.slice ao I.length W) I := ⟨by rw [← hq_]; exact (rP F)⟩; have aC : RA (Kd.int .i64) 3 wr w aG J := ⟨by rw [← hq_]; exact (rP D)⟩; have aD : BA w wr := ⟨by rw [← hq_]; exact (bP0 HB)⟩; clear F D HB hq_; have F := aB; have D := aC; have HB := aD; clear aB aC aD)); have a2 : 0 ≤ (A : Int) := oT aO; have a3 : (A : Int) < ((J.length : Int) : Int) := oT aO; obtain ⟨go30, a4, a5, a6, gl30, cl30, HG30⟩ := Kd.R_form D.out (by omega); (first | cases a5 | (injection a5 with ea_ en_ ec_; (first | subst ea_ | (injection ea_ with ea_; subst ea_)); subst ec_; clear en_)); have GB30 := aM a6; have GG30 := aM HG30; clear a6 gl30 HG30; obtain ⟨bS, hf30_0⟩ := Kd.R_celln 0 D.out (A : Int) a2 a3; replace a2 := eq_true a2; replace a3 := eq_true a3; obtain ⟨b8, b9⟩ := Kd.R_celln 0 D.out (A : Int) (oT aO) (oT aO); have HP31 := Kd.R_putg D.out (A : Int) au) | ((with_reducible refine gate_store (t := 3) (p := 65) rfl ?_); refine store_event (t := 3) (p := 65) (v := ?vo_w32) (w1 := (wr.setCell ⟨go30, (A : Int).toNat, none⟩ (.int .i64 au))) ?hg ?ho ?hn ?hr ?_; (case ho => rfl); (case hg => rfl); (case hn => rfl); (case hr => first | (go_simp; done) | (go_simp; rfl)); intro a7 hw; have hg : wr.grownBy a7 (some go30) := (by rw [hw]; exact HP31.2); have hp_ : Kd.R (Kd.int .i64) 3 a7 w.heap.size (fun _ => True) (.slice (some ⟨go30, 0, none⟩) J.length a4) aZ := (by rw [hw, bs.out]; exact HP31.1); clear HP31; replace F := aM (Kd.R_over' (v := (.slice (some ⟨go30, 0, none⟩) J.length a4)) (rP F) (Kd.R_typed D.out) (by decide) hg); replace D := aM (hp_); replace HB := aM ((by rw [hw]; exact below_set (HB.out) GB30.out : Below w.heap.size w a7)); clear hg hw hp_))
                      go_roundg k4
                      case measure => have := HJ2.out; have := HK2.out; have := HK3.out; have := HK4.out; omega
                      case rel => exact ⟨(aZ), (wrap64 (A + 1)), sI, H', ⟨by have := HJ2.out; have := HK2.out; have := HK3.out; have := HK4.out; omega⟩, ⟨by (try simp only [E]); (with_reducible repeat (first | apply Kd.R_alloc | apply Kd.R_drewN | apply Kd.R_drew)); exact F.out⟩, ⟨by (try simp only [E]); (with_reducible repeat (first | apply Kd.R_alloc | apply Kd.R_drewN | apply Kd.R_drew)); exact D.out⟩, bT0 HB⟩
                     ·exact nX aQ H
                    ·exact nX aP H
                   ·exact nX aN H
                  ·rw [if_neg ak] at H; have ar := decide_eq_false ak
                   (try (have c25b0hl8_3 := ar; rw [E] at c25b0hl8_3))
                   clear ak; replace H := Option.bind_eq_some_iff.mp H; obtain ⟨⟨ag, bI⟩, a8, H⟩ := H; replace H : (if 0 ≤ z then (if z < (I.length : Int) then (word_Decode.l1 k4 G (I.set (z : Int).toNat ag) J (V.length : Int) (wrap64 (z + 1))) else (none)) else (none)) = some (r1, r2) := H; have bT := aM a8; clear a8
                   by_cases aR : 0 ≤ z
                   ·rw [if_pos aR] at H; have ca := dT aR; clear aR
                    by_cases aS : z < (I.length : Int)
                    ·rw [if_pos aS] at H; have bt := dT aS
                     (try (have c35b0hl8_3 := bt; rw [E] at c35b0hl8_3))
                     clear aS; obtain ⟨a9, ad⟩ : ∃ y_ : List Int, y_ = (I.set (z : Int).toNat ag) := ⟨_, rfl⟩
                     first | replace H := rI ad H | rw [← ad] at H
                     have bu := aM ad; clear ad; have H' := aM H; clear H; obtain ⟨ba, bb, bJ⟩ := sL D; subst bJ
                     go_wp2_with (first | ((with_reducible refine gate_callee (f := 39) rfl ?_); refine gL_ (some 71) Try.func39 #[.slice ba J.length bb] ?_; (with_reducible refine (word_Number.calls k4 _ _ J ag bI _ ?s1 (rR D).2.1 bT.out).mono ?_); (case s1 => exact cO (rR D).2.2); rintro e w' ⟨rfl, ⟨nd, rfl⟩⟩; refine ⟨_, rfl, ?_⟩; (try (rw [drewN_self wr]; generalize hq_ : World.drewN wr _ = wr; have aB : RA (Kd.int .i64) 2 wr w (.slice ao I.length W) I := ⟨by rw [← hq_]; exact (rP F)⟩; have aC : RA (Kd.int .i64) 3 wr w (.slice ba J.length bb) J := ⟨by rw [← hq_]; exact (rP D)⟩; have aD : BA w wr := ⟨by rw [← hq_]; exact (bP0 HB)⟩; clear F D HB hq_; have F := aB; have D := aC; have HB := aD; clear aB aC aD)); have bc : 0 ≤ (z : Int) := oT aO; have bd : (z : Int) < ((I.length : Int) : Int) := oT aO; obtain ⟨go36, cg, be, bf, gl36, cl36, HG36⟩ := Kd.R_form F.out (by omega); (first | cases be | (injection be with ea_ en_ ec_; (first | subst ea_ | (injection ea_ with ea_; subst ea_)); subst ec_; clear en_)); have GB36 := aM bf; have GG36 := aM HG36; clear bf gl36 HG36; obtain ⟨bU, hf36_0⟩ := Kd.R_celln 0 F.out (z : Int) bc bd; replace bc := eq_true bc; replace bd := eq_true bd; obtain ⟨cb, cc⟩ := Kd.R_celln 0 F.out (z : Int) (oT aO) (oT aO); have HP38 := Kd.R_putg F.out (z : Int) ag) | ((with_reducible refine gate_store (t := 2) (p := 74) rfl ?_); refine store_event (t := 2) (p := 74) (v := ?vo_w39) (w1 := (wr.setCell ⟨go36, (z : Int).toNat, none⟩ (.int .i64 ag))) ?hg ?ho ?hn ?hr ?_; (case ho => rfl); (case hg => rfl); (case hn => rfl); (case hr => first | (go_simp; done) | (go_simp; rfl)); intro bg hw; have hg : wr.grownBy bg (some go36) := (by rw [hw]; exact HP38.2); have hp_ : Kd.R (Kd.int .i64) 2 bg w.heap.size (fun _ => True) (.slice (some ⟨go36, 0, none⟩) I.length W) a9 := (by rw [hw, bu.out]; exact HP38.1); clear HP38; replace D := aM (Kd.R_over' (v := (.slice (some ⟨go36, 0, none⟩) I.length W)) (rP D) (Kd.R_typed F.out) (by decide) hg); replace F := aM (hp_); replace HB := aM ((by rw [hw]; exact below_set (HB.out) GB36.out : Below w.heap.size w bg)); clear hg hw hp_))
                     (try simp only [← E])
                     go_roundg k4
                     case measure => have := HJ2.out; have := HK2.out; have := HK3.out; have := HK4.out; omega
                     case rel => exact ⟨(a9), (J), (wrap64 (z + 1)), sI, H', ⟨by have := HJ2.out; have := HK2.out; have := HK3.out; have := HK4.out; omega⟩, ⟨by (try simp only [E]); (with_reducible repeat (first | apply Kd.R_alloc | apply Kd.R_drewN | apply Kd.R_drew)); exact F.out⟩, ⟨by (try simp only [E]); (with_reducible repeat (first | apply Kd.R_alloc | apply Kd.R_drewN | apply Kd.R_drew)); exact D.out⟩, bT0 HB⟩
                    ·exact nX aS H
                   ·exact nX aR H
               ·rw [if_neg aj] at H; have aq := decide_eq_false aj
                (try (have c24b0hl8_3 := aq; rw [E] at c24b0hl8_3))
                clear aj; simp only [Option.some.injEq, Prod.mk.injEq] at H; obtain ⟨rfl, rfl⟩ := H
                go_wp2
                go_ret2
                exact ⟨_, eW, rO F.out, bO HB.out⟩
            ·exact nX aA H
           ·exact nX az H
          ·exact nX ay H
         ·exact nX ax H

end Go.Proofs.Ythgoonohpfoagaa.X
namespace Go.Proofs.Ythgoonohpfoagaa.X
open Go.RowKit Go.Proofs.YthgoonohpfoagaaW.PrintWords Go.Proofs.YthgoonohpfoagaaW.PrintLast Go.Proofs.YthgoonohpfoagaaW.PrintMore
attribute [local go_sem] max2_int min2_int max_two min_two max_three min_three max_four min_four
set_option linter.unusedVariables false
set_option linter.unusedSimpArgs false
set_option maxHeartbeats 8000000
set_option maxRecDepth 100000

/-! ### truth_made: function 66 -/
def truth_made.l0 : Nat → Bool → List Int → Int → Option (Bool × List Int)
 | 0, _, _, _ => none
 | k + 1, x0, x1, x5 => if x5 > 0 then (if 0 ≤ (wrap64 (x5 - 1)) then (if (wrap64 (x5 - 1)) < (x1.length : Int) then (if (rd x1 (wrap64 (x5 - 1))) = 0 then (truth_made.l0 k x0 x1 (wrap64 (x5 - 1))) else (if x0 = true then (if 0 ≤ x5 then (if x5 ≤ (x1.length : Int) then (some (true, (x1.take (x5 : Int).toNat))) else (none)) else (none)) else (if 0 ≤ x5 then (if x5 ≤ (x1.length : Int) then (some (false, (x1.take (x5 : Int).toNat))) else (none)) else (none)))) else (none)) else (none)) else (if x0 = true then (if 0 ≤ x5 then (if x5 ≤ (x1.length : Int) then (some (false, (x1.take (x5 : Int).toNat))) else (none)) else (none)) else (if 0 ≤ x5 then (if x5 ≤ (x1.length : Int) then (some (false, (x1.take (x5 : Int).toNat))) else (none)) else (none)))
def truth_made.f (k : Nat) (a0 : Bool) (l1 : List Int) : Option (Bool × List Int) := truth_made.l0 k a0 l1 (l1.length : Int)
theorem truth_made.mono_l : ∀ k, (∀ y0 y1 y2, LeO (truth_made.l0 k y0 y1 y2) (truth_made.l0 (k + 1) y0 y1 y2))
 | 0 => fun _ _ _ r h => by simp [truth_made.l0] at h
 | k + 1 => by
  have ih0 := truth_made.mono_l k
  ·intro y0 y1 y2
   unfold truth_made.l0
   repeat' first | (with_reducible first | exact ih0 _ _ _ | exact lA | apply lI | refine lB ?_ fun _ => ?_) | exact lN _ | apply lI | refine lB ?_ fun _ => ?_
theorem truth_made.mono : ∀ a0 a1 k, LeO (truth_made.f k a0 a1) (truth_made.f (k + 1) a0 a1) := by
 intro a0 a1 k; have ih0 := truth_made.mono_l k
 unfold truth_made.f
 repeat' first | (with_reducible first | exact ih0 _ _ _ | exact lA | apply lI | refine lB ?_ fun _ => ?_) | exact lN _ | apply lI | refine lB ?_ fun _ => ?_
theorem truth_made.calls (k : Nat) (a0 : Bool) (P1_ : Nat → Prop) (O : Option Addr) (E : Nat) (B : List Int) (r1 : Bool) (r2 : List Int) (w : World) (hs1 : Kd.V (Kd.int .u32) 117 w w.heap.size (fun k_ => P1_ k_) (.slice O B.length E) B) (h : truth_made.f k a0 B = some (r1, r2)) :
  Calls Try.prog 66 #[.bool a0, .slice O B.length E] w fun e w' => ∃ a3 : Value, e = .returned (.agg #[.bool r1, a3]) ∧ Kd.V (Kd.int .u32) 117 w' w.heap.size (fun k_ => (P1_ k_ ∨ w.heap.size ≤ k_)) a3 r2 ∧ Below w.heap.size w w' := by
 have hu90 := Try.underlying90; have aN := aM (show Kd.V (Kd.int .u32) 117 w w.heap.size (fun k_ => (P1_ k_ ∨ w.heap.size ≤ k_)) (.slice O B.length E) B from Kd.V_mono hs1 (fun k_ hk => .inl hk)); have HB := aM (Below.refl w.heap.size w); rw [truth_made.f] at h; have H := h; clear h; have H' := aM H; clear H
 go_enter Try.func66, Try.ntmps66
 go_wp2_with (first | ((with_reducible refine gate_dst (N := 4) rfl ?_); refine be_ (cs := #[.bool false, .slice none 0 0]) (t := 90) ?_; intro A hg w3 hbox hb; replace aN := aM (Kd.V_below (Kd.V_elderB (vO aN.out) A (Nat.le_of_eq hg.symm)) hb); have D := aM (hbox); have br := gE hg (bP0 HB); have M := gE hg (bP0 HB); replace HB := hS0 HB hb; clear hb hbox hg))
 go_loopg [5] k (fun kq v5 w' => ∃ (z : Int), v5 = .int .i64 z ∧ Aside0 (truth_made.l0 kq a0 B z = some (r1, r2)) ∧ Aside0 (kq ≤ k) ∧ Aside0 (Kd.V (Kd.int .u32) 117 w' w.heap.size (fun k_ => (P1_ k_ ∨ w.heap.size ≤ k_) ∧ k_ ≠ A) (.slice O B.length E) B) ∧ Aside0 (w'.heap[A]? = some (.cells #[.bool false, (.slice none 0 0)] 90 (0, 0))) ∧ BA w w')
 case atStart => exact ⟨((B.length : Int)), sI, H', ⟨Nat.le_refl _⟩, ⟨vO aN.out⟩, kQ D, bT1 HB M⟩
 case round =>
  clear H'
  obtain ⟨z, rfl, HA, HK1, G, D, HB⟩ := hrel; cases gk with
  | zero => exact absurd HA.out (by simp [truth_made.l0])
  | succ k1 =>
   have H := HA.out; clear HA; simp only [truth_made.l0] at H
   by_cases c4 : z > 0
   ·rw [if_pos c4] at H; have a6 := dT c4; clear c4; obtain ⟨L, Q⟩ : ∃ j_ : Int, (wrap64 (z - 1)) = j_ := ⟨_, rfl⟩
    first | rw [Q] at H | simp only [Q] at H
    have hji5w : (IntKind.i64.wrap (z - 1)) = L := (i64_w _).trans Q
    by_cases c6 : 0 ≤ (L)
    ·rw [if_pos c6] at H; have bO := dT c6; clear c6
     by_cases c7 : (L) < (B.length : Int)
     ·rw [if_pos c7] at H; have bP := dT c7; clear c7
      by_cases c8 : (rd B (L)) = 0
      ·rw [if_pos c8] at H; obtain ⟨a7, a8⟩ := bq c8; clear c8; have H' := aM H; clear H; have I : 0 ≤ ((L) : Int) := oT aO; have J : (L) < (B.length : Int) := oT aO; obtain ⟨C, ad, ae⟩ := Kd.at_int (Kd.V_reads' G.out).2.2 (L) I J; cases ad; replace I := eq_true I; replace J := eq_true J
       go_wp2
       go_roundg k1
       case measure => have := HK1.out; omega
       case rel => exact ⟨(L), (by first | rfl | (simp; done) | (simp only [← Q] <;> (first | rfl | simp)) | (simp [*]; done)), H', ⟨by have := HK1.out; omega⟩, ⟨vO G.out⟩, kQ D, bT1 HB M⟩
      ·rw [if_neg c8] at H; obtain ⟨a7, a8⟩ := bn c8
       by_cases c9 : a0 = true
       ·subst c9
        rw [if_pos rfl] at H
        by_cases aj : 0 ≤ z
        ·rw [if_pos aj] at H; have bs := eq_true aj; have bt := dT aj; clear aj
         by_cases ak : z ≤ (B.length : Int)
         ·rw [if_pos ak] at H; have bu := eq_true ak; have bv := dT ak; clear ak; obtain ⟨R, Z⟩ : ∃ y_ : List Int, y_ = (B.take (z : Int).toNat) := ⟨_, rfl⟩
          first | replace H := rI Z H | rw [← Z] at H
          have aB := aM Z; clear Z; simp only [Option.some.injEq, Prod.mk.injEq] at H; obtain ⟨rfl, rfl⟩ := H; have I : 0 ≤ ((L) : Int) := oT aO; have J : (L) < (B.length : Int) := oT aO; obtain ⟨C, ad, ae⟩ := Kd.at_int (Kd.V_reads' G.out).2.2 (L) I J; cases ad; replace I := eq_true I; replace J := eq_true J; have aQ : (z : Int) ≤ ((B.length : Int) : Int) := oT aO; obtain ⟨i012, aC, _, hsz12, _⟩ := info_parts info117; have af : B.length ≤ E := (Kd.V_reads' G.out).2.1; have hC12 : Kd.F (Kd.int .u32) _ _ (some C) B.length B := (Kd.V_at (base := w.heap.size) G.out).2.2; have hcut12 := cut_to (P := Try.prog) 88 117 .i64 Try.underlying88 aC (some C) B.length E z (oT aO) aQ af; have ar := Kd.F_take (m := (z : Int).toNat) hC12 (by omega); have au : R.length = (z : Int).toNat := (by rw [aB.out, List.length_take]; omega); rw [← aB.out] at ar; rw [← au] at hcut12; have aX := aM (show Kd.V (Kd.int .u32) 117 _ w.heap.size _ (.slice (some C) R.length E) R from Kd.V_mk (by omega) ar); have bw := aM (show R.length ≤ E from by omega); clear ar hC12 af aC hsz12; have KY12 := aM au; clear au; replace aQ := eq_true aQ; obtain ⟨a9, ba, bb, bc⟩ := bG2 D
          go_wp2
          refine bodyPost_ret (results_cell_row rfl _ _ A 90 #[.bool true, .slice (some C) R.length E] (0, 0) _ rfl (by (with_reducible repeat (first | refine blk_drewN ?_ _ | refine blk_drew ?_ | refine blk_alloc ?_ _)); exact blk_put (blk_put D.out 0 _ rfl) 1 _ rfl) Try.underlying90 rfl (by kernel_rfl)) rfl ?_; exact ⟨_, by first | rfl | (simp [errW_none, errW_some] <;> rfl) | (simp only [← Q]; first | rfl | (simp [errW_none, errW_some] <;> rfl)) | (simp [*, errW_none, errW_some] <;> rfl), by (with_reducible repeat (first | apply Kd.V_alloc | apply Kd.V_drewN | apply Kd.V_drew)); exact Kd.V_mono (Kd.V_far (p := ⟨A, 1, none⟩) (Kd.V_far (p := ⟨A, 0, none⟩) (Kd.V_mono aX.out (fun k_ hk => (⟨hk, hk.2⟩ : _ ∧ k_ ≠ A))) (fun _ hk => hk.2) (.bool true)) (fun _ hk => hk.2) (.slice (some C) R.length E)) (fun _ hk => hk.1.1), bS1 HB.out M.out⟩
         ·exact nX ak H
        ·exact nX aj H
       ·replace c9 := Bool.eq_false_iff.mpr c9; subst c9
        rw [if_neg nF] at H
        by_cases al : 0 ≤ z
        ·rw [if_pos al] at H; have bx := eq_true al; have bz := dT al; clear al
         by_cases am : z ≤ (B.length : Int)
         ·rw [if_pos am] at H; have bA := eq_true am; have bB := dT am; clear am; obtain ⟨U, aa⟩ : ∃ y_ : List Int, y_ = (B.take (z : Int).toNat) := ⟨_, rfl⟩
          first | replace H := rI aa H | rw [← aa] at H
          have aD := aM aa; clear aa; simp only [Option.some.injEq, Prod.mk.injEq] at H; obtain ⟨rfl, rfl⟩ := H; have I : 0 ≤ ((L) : Int) := oT aO; have J : (L) < (B.length : Int) := oT aO; obtain ⟨C, ad, ae⟩ := Kd.at_int (Kd.V_reads' G.out).2.2 (L) I J; cases ad; replace I := eq_true I; replace J := eq_true J; have aR : (z : Int) ≤ ((B.length : Int) : Int) := oT aO; obtain ⟨i016, aE, _, hsz16, _⟩ := info_parts info117; have ag : B.length ≤ E := (Kd.V_reads' G.out).2.1; have hC16 : Kd.F (Kd.int .u32) _ _ (some C) B.length B := (Kd.V_at (base := w.heap.size) G.out).2.2; have hcut16 := cut_to (P := Try.prog) 88 117 .i64 Try.underlying88 aE (some C) B.length E z (oT aO) aR ag; have av := Kd.F_take (m := (z : Int).toNat) hC16 (by omega); have aw : U.length = (z : Int).toNat := (by rw [aD.out, List.length_take]; omega); rw [← aD.out] at av; rw [← aw] at hcut16; have aY := aM (show Kd.V (Kd.int .u32) 117 _ w.heap.size _ (.slice (some C) U.length E) U from Kd.V_mk (by omega) av); have bC := aM (show U.length ≤ E from by omega); clear av hC16 ag aE hsz16; have KY16 := aM aw; clear aw; replace aR := eq_true aR; obtain ⟨bd, be, bf, bg⟩ := bG2 D
          go_wp2
          refine bodyPost_ret (results_cell_row rfl _ _ A 90 #[.bool false, .slice (some C) U.length E] (0, 0) _ rfl (by (with_reducible repeat (first | refine blk_drewN ?_ _ | refine blk_drew ?_ | refine blk_alloc ?_ _)); exact blk_put (blk_put D.out 0 _ rfl) 1 _ rfl) Try.underlying90 rfl (by kernel_rfl)) rfl ?_; exact ⟨_, by first | rfl | (simp [errW_none, errW_some] <;> rfl) | (simp only [← Q]; first | rfl | (simp [errW_none, errW_some] <;> rfl)) | (simp [*, errW_none, errW_some] <;> rfl), by (with_reducible repeat (first | apply Kd.V_alloc | apply Kd.V_drewN | apply Kd.V_drew)); exact Kd.V_mono (Kd.V_far (p := ⟨A, 1, none⟩) (Kd.V_far (p := ⟨A, 0, none⟩) (Kd.V_mono aY.out (fun k_ hk => (⟨hk, hk.2⟩ : _ ∧ k_ ≠ A))) (fun _ hk => hk.2) (.bool false)) (fun _ hk => hk.2) (.slice (some C) U.length E)) (fun _ hk => hk.1.1), bS1 HB.out M.out⟩
         ·exact nX am H
        ·exact nX al H
     ·exact nX c7 H
    ·exact nX c6 H
   ·rw [if_neg c4] at H; have a6 := decide_eq_false c4; clear c4
    by_cases aF : a0 = true
    ·subst aF
     rw [if_pos rfl] at H
     by_cases an : 0 ≤ z
     ·rw [if_pos an] at H; have bD := eq_true an; have bE := dT an; clear an
      by_cases ao : z ≤ (B.length : Int)
      ·rw [if_pos ao] at H; have bF := eq_true ao; have bG := dT ao; clear ao; obtain ⟨W, ab⟩ : ∃ y_ : List Int, y_ = (B.take (z : Int).toNat) := ⟨_, rfl⟩
       first | replace H := rI ab H | rw [← ab] at H
       have aG := aM ab; clear ab; simp only [Option.some.injEq, Prod.mk.injEq] at H; obtain ⟨rfl, rfl⟩ := H; have aS : (z : Int) ≤ ((B.length : Int) : Int) := oT aO; obtain ⟨i021, aH, _, hsz21, _⟩ := info_parts info117; have ah : B.length ≤ E := (Kd.V_reads' G.out).2.1; have hC21 : Kd.F (Kd.int .u32) _ _ O B.length B := (Kd.V_at (base := w.heap.size) G.out).2.2; have hcut21 := cut_to (P := Try.prog) 88 117 .i64 Try.underlying88 aH O B.length E z (oT aO) aS ah; have ax := Kd.F_take (m := (z : Int).toNat) hC21 (by omega); have ay : W.length = (z : Int).toNat := (by rw [aG.out, List.length_take]; omega); rw [← aG.out] at ax; rw [← ay] at hcut21; have aZ := aM (show Kd.V (Kd.int .u32) 117 _ w.heap.size _ (.slice O W.length E) W from Kd.V_mk (by omega) ax); have bH := aM (show W.length ≤ E from by omega); clear ax hC21 ah aH hsz21; have KY21 := aM ay; clear ay; replace aS := eq_true aS; obtain ⟨bh, bi, bj, bk⟩ := bG2 D
       go_wp2
       refine bodyPost_ret (results_cell_row rfl _ _ A 90 #[.bool false, .slice O W.length E] (0, 0) _ rfl (by (with_reducible repeat (first | refine blk_drewN ?_ _ | refine blk_drew ?_ | refine blk_alloc ?_ _)); exact blk_put (blk_put D.out 0 _ rfl) 1 _ rfl) Try.underlying90 rfl (by kernel_rfl)) rfl ?_; exact ⟨_, eW, by (with_reducible repeat (first | apply Kd.V_alloc | apply Kd.V_drewN | apply Kd.V_drew)); exact Kd.V_mono (Kd.V_far (p := ⟨A, 1, none⟩) (Kd.V_far (p := ⟨A, 0, none⟩) (Kd.V_mono aZ.out (fun k_ hk => (⟨hk, hk.2⟩ : _ ∧ k_ ≠ A))) (fun _ hk => hk.2) (.bool false)) (fun _ hk => hk.2) (.slice O W.length E)) (fun _ hk => hk.1.1), bS1 HB.out M.out⟩
      ·exact nX ao H
     ·exact nX an H
    ·replace aF := Bool.eq_false_iff.mpr aF; subst aF
     rw [if_neg nF] at H
     by_cases ap : 0 ≤ z
     ·rw [if_pos ap] at H; have bI := eq_true ap; have bJ := dT ap; clear ap
      by_cases aq : z ≤ (B.length : Int)
      ·rw [if_pos aq] at H; have bK := eq_true aq; have bL := dT aq; clear aq; obtain ⟨Y, ac⟩ : ∃ y_ : List Int, y_ = (B.take (z : Int).toNat) := ⟨_, rfl⟩
       first | replace H := rI ac H | rw [← ac] at H
       have aI := aM ac; clear ac; simp only [Option.some.injEq, Prod.mk.injEq] at H; obtain ⟨rfl, rfl⟩ := H; have aT : (z : Int) ≤ ((B.length : Int) : Int) := oT aO; obtain ⟨i025, aJ, _, hsz25, _⟩ := info_parts info117; have ai : B.length ≤ E := (Kd.V_reads' G.out).2.1; have hC25 : Kd.F (Kd.int .u32) _ _ O B.length B := (Kd.V_at (base := w.heap.size) G.out).2.2; have hcut25 := cut_to (P := Try.prog) 88 117 .i64 Try.underlying88 aJ O B.length E z (oT aO) aT ai; have az := Kd.F_take (m := (z : Int).toNat) hC25 (by omega); have aA : Y.length = (z : Int).toNat := (by rw [aI.out, List.length_take]; omega); rw [← aI.out] at az; rw [← aA] at hcut25; have a2 := aM (show Kd.V (Kd.int .u32) 117 _ w.heap.size _ (.slice O Y.length E) Y from Kd.V_mk (by omega) az); have bM := aM (show Y.length ≤ E from by omega); clear az hC25 ai aJ hsz25; have KY25 := aM aA; clear aA; replace aT := eq_true aT; obtain ⟨bl, bm, bo, bp⟩ := bG2 D
       go_wp2
       refine bodyPost_ret (results_cell_row rfl _ _ A 90 #[.bool false, .slice O Y.length E] (0, 0) _ rfl (by (with_reducible repeat (first | refine blk_drewN ?_ _ | refine blk_drew ?_ | refine blk_alloc ?_ _)); exact blk_put (blk_put D.out 0 _ rfl) 1 _ rfl) Try.underlying90 rfl (by kernel_rfl)) rfl ?_; exact ⟨_, eW, by (with_reducible repeat (first | apply Kd.V_alloc | apply Kd.V_drewN | apply Kd.V_drew)); exact Kd.V_mono (Kd.V_far (p := ⟨A, 1, none⟩) (Kd.V_far (p := ⟨A, 0, none⟩) (Kd.V_mono a2.out (fun k_ hk => (⟨hk, hk.2⟩ : _ ∧ k_ ≠ A))) (fun _ hk => hk.2) (.bool false)) (fun _ hk => hk.2) (.slice O Y.length E)) (fun _ hk => hk.1.1), bS1 HB.out M.out⟩
      ·exact nX aq H
     ·exact nX ap H

end Go.Proofs.Ythgoonohpfoagaa.X
