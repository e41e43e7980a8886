/- Functions of the seat, printed, and that the program's calls come to them; no condition. -/
import Derived.Test.YtninoenmhcbonaaX0
import Derived.Test.YtninoenmhcbonaaX31
namespace Go.Proofs.Ytninoenmhcbonaa.X
open Go.RowKit Go.Proofs.YtninoenmhcbonaaW.PrintWords Go.Proofs.YtninoenmhcbonaaW.PrintLast Go.Proofs.YtninoenmhcbonaaW.PrintMore
attribute [local go_sem] max2_int min2_int max_two min_two max_three min_three max_four min_four
set_option linter.unusedVariables false
set_option linter.unusedSimpArgs false
set_option maxHeartbeats 8000000
set_option maxRecDepth 100000

mutual
def Frb.j1 : Nat → List (List Bool) → List ByteArray → List Bool → List (List Int) → Option (List Int)
 | 0, _, _, _, _ => none
 | k + 1, x3, x403000, x403001, x403002 => if 0 ≤ (wrap64 ((x3.length : Int) - 1)) then (if (wrap64 ((x3.length : Int) - 1)) < (x3.length : Int) then (if 0 < ((rd_L6 x3 (wrap64 ((x3.length : Int) - 1))).length : Int) then (if (rdOf false (rd_L6 x3 (wrap64 ((x3.length : Int) - 1))) 0 = true) then (Frb.l1 k x3 (wrap64 ((x3.length : Int) - 1)) ([] : List Int) 0 x403000 x403001 x403002) else (some ([] : List Int))) else (none)) else (none)) else (none)
def Frb.l1 : Nat → List (List Bool) → Int → List Int → Int → List ByteArray → List Bool → List (List Int) → Option (List Int)
 | 0, _, _, _, _, _, _, _ => none
 | k + 1, x3, x5, x6, x7, x403000, x403001, x403002 => if x5 > 0 then (Frb.l2 k x3 (wrap64 (x5 - 1)) x6 x7 0 x403000 x403001 x403002) else (some x6)
def Frb.l2 : Nat → List (List Bool) → Int → List Int → Int → Int → List ByteArray → List Bool → List (List Int) → Option (List Int)
 | 0, _, _, _, _, _, _, _, _ => none
 | k + 1, x3, x5, x6, x7, x8, x403000, x403001, x403002 => if 0 ≤ x5 then (if x5 < (x3.length : Int) then (if 0 ≤ x7 then (if x7 < (x403002.length : Int) then (if 0 ≤ x8 then (if x8 < ((rd_L4 x403002 x7).length : Int) then (if 0 ≤ (rd (rd_L4 x403002 x7) x8) then (if (rd (rd_L4 x403002 x7) x8) < ((rd_L6 x3 x5).length : Int) then (if (rdOf false (rd_L6 x3 x5) (rd (rd_L4 x403002 x7) x8) = true) then (if x6.length < 17592186044416 then (Frb.l1 k x3 x5 (x6 ++ [x8]) (rd (rd_L4 x403002 x7) x8) x403000 x403001 x403002) else (none)) else (Frb.l2 k x3 x5 x6 x7 (wrap64 (x8 + 1)) x403000 x403001 x403002)) else (none)) else (none)) else (none)) else (none)) else (none)) else (none)) else (none)) else (none)
def Frb.l0 : Nat → List (List Bool) → Int → List ByteArray → List Bool → List (List Int) → Option (List Int)
 | 0, _, _, _, _, _ => none
 | k + 1, x3, x4, x403000, x403001, x403002 => if x4 ≤ (x403001.length : Int) then (if 0 ≤ (wrap64 (x4 - 1)) then (if (wrap64 (x4 - 1)) < (x3.length : Int) then ((Fs.f k x403000 x403001 x403002 (rd_L6 x3 (wrap64 (x4 - 1)))).bind fun t407 => (if x3.length < 5864062014805 then ((some (x3 ++ [t407] : List (List Bool))).bind fun y410 => (if 0 ≤ x4 then (if x4 < (y410.length : Int) then (if 0 < ((rd_L6 y410 x4).length : Int) then (if rdOf false (rd_L6 y410 x4) 0 = true then (Frb.j1 k y410 x403000 x403001 x403002) else (Frb.l0 k y410 (wrap64 (x4 + 1)) x403000 x403001 x403002)) else (none)) else (none)) else (none))) else (none))) else (none)) else (none)) else (Frb.j1 k x3 x403000 x403001 x403002)
end
def Frb.f (k : Nat) (l0_0 : List ByteArray) (l0_1 : List Bool) (l0_2 : List (List Int)) : Option (List Int) := Frb.l0 k (([l0_1] : List (List Bool))) 1 l0_0 l0_1 l0_2
theorem Frb.mono_l : ∀ k, (∀ y0 y1 y2 y3, LeO (Frb.j1 k y0 y1 y2 y3) (Frb.j1 (k + 1) y0 y1 y2 y3)) ∧ (∀ y0 y1 y2 y3 y4 y5 y6, LeO (Frb.l1 k y0 y1 y2 y3 y4 y5 y6) (Frb.l1 (k + 1) y0 y1 y2 y3 y4 y5 y6)) ∧ (∀ y0 y1 y2 y3 y4 y5 y6 y7, LeO (Frb.l2 k y0 y1 y2 y3 y4 y5 y6 y7) (Frb.l2 (k + 1) y0 y1 y2 y3 y4 y5 y6 y7)) ∧ (∀ y0 y1 y2 y3 y4, LeO (Frb.l0 k y0 y1 y2 y3 y4) (Frb.l0 (k + 1) y0 y1 y2 y3 y4))
 | 0 => ⟨fun _ _ _ _ r h => by simp [Frb.j1] at h, fun _ _ _ _ _ _ _ r h => by simp [Frb.l1] at h, fun _ _ _ _ _ _ _ _ r h => by simp [Frb.l2] at h, fun _ _ _ _ _ r h => by simp [Frb.l0] at h⟩
 | k + 1 => by
  obtain ⟨ih0, ih1, ih2, ih3⟩ := Frb.mono_l k; refine ⟨?_, ?_, ?_, ?_⟩
  ·intro y0 y1 y2 y3
   unfold Frb.j1
   repeat' first | (with_reducible first | exact ih0 _ _ _ _ | exact ih1 _ _ _ _ _ _ _ | exact ih2 _ _ _ _ _ _ _ _ | exact ih3 _ _ _ _ _ | exact Fs.mono _ _ _ _ _ | exact lA | apply lI | refine lB ?_ fun _ => ?_) | exact lN _ | apply lI | refine lB ?_ fun _ => ?_
  ·intro y0 y1 y2 y3 y4 y5 y6
   unfold Frb.l1
   repeat' first | (with_reducible first | exact ih0 _ _ _ _ | exact ih1 _ _ _ _ _ _ _ | exact ih2 _ _ _ _ _ _ _ _ | exact ih3 _ _ _ _ _ | exact Fs.mono _ _ _ _ _ | exact lA | apply lI | refine lB ?_ fun _ => ?_) | exact lN _ | apply lI | refine lB ?_ fun _ => ?_
  ·intro y0 y1 y2 y3 y4 y5 y6 y7
   unfold Frb.l2
   repeat' first | (with_reducible first | exact ih0 _ _ _ _ | exact ih1 _ _ _ _ _ _ _ | exact ih2 _ _ _ _ _ _ _ _ | exact ih3 _ _ _ _ _ | exact Fs.mono _ _ _ _ _ | exact lA | apply lI | refine lB ?_ fun _ => ?_) | exact lN _ | apply lI | refine lB ?_ fun _ => ?_
  ·intro y0 y1 y2 y3 y4
   unfold Frb.l0
   repeat' first | (with_reducible first | exact ih0 _ _ _ _ | exact ih1 _ _ _ _ _ _ _ | exact ih2 _ _ _ _ _ _ _ _ | exact ih3 _ _ _ _ _ | exact Fs.mono _ _ _ _ _ | exact lA | apply lI | refine lB ?_ fun _ => ?_) | exact lN _ | apply lI | refine lB ?_ fun _ => ?_
theorem Frb.mono : ∀ a0 a1 a2 k, LeO (Frb.f k a0 a1 a2) (Frb.f (k + 1) a0 a1 a2) := by
 intro a0 a1 a2 k; obtain ⟨ih0, ih1, ih2, ih3⟩ := Frb.mono_l k
 unfold Frb.f
 repeat' first | (with_reducible first | exact ih0 _ _ _ _ | exact ih1 _ _ _ _ _ _ _ | exact ih2 _ _ _ _ _ _ _ _ | exact ih3 _ _ _ _ _ | exact Fs.mono _ _ _ _ _ | exact lA | apply lI | refine lB ?_ fun _ => ?_) | exact lN _ | apply lI | refine lB ?_ fun _ => ?_
def Frb.T5 : Bool × List (List Nat × List Nat) := (true, [([], []), ([], []), ([], []), ([], []), ([3], [3]), ([2, 4], [2, 4]), ([5], [5]), ([1, 6], [1, 6]), ([7], [7]), ([0, 8, 7], [0, 8]), ([9, 9, 0, 1, 2, 3, 4, 5, 6, 7, 8, 9], [0, 2, 9])])
def Frb.B5 : List Nat := [0, 0, 0, 0, 8, 28, 60, 126, 254, 511, 1023]
theorem Frb.tab5 : rtab .any (opsOf Try.f17 5) = Frb.T5 := by kernel_rfl
theorem Frb.bits5 : waitsOk Frb.T5.2 Frb.B5 = true := by kernel_rfl
def Frb.T15 : Bool × List (List Nat × List Nat) := (true, [([], []), ([], []), ([0, 1], [0, 1]), ([2], [2]), ([], []), ([4], [4]), ([], []), ([5, 6], [5, 6]), ([7], [7]), ([], []), ([8, 9], [8, 9]), ([10], [10]), ([3, 11], [3, 11]), ([12], [12]), ([13], [13])])
def Frb.B15 : List Nat := [0, 0, 3, 7, 0, 16, 0, 112, 240, 0, 1008, 2032, 4095, 8191, 16383]
theorem Frb.tab15 : rtab .any (opsOf Try.f17 15) = Frb.T15 := by kernel_rfl
theorem Frb.bits15 : waitsOk Frb.T15.2 Frb.B15 = true := by kernel_rfl
theorem Frb.calls (k : Nat) (aa : Option Addr) (ab : Nat) (O : List ByteArray) (P0_1_ : Nat → Prop) (Q : Option Addr) (U : Nat) (G : List Bool) (ak : Option Addr) (ac : Nat) (F : List (List Int)) (r : List Int) (w : World) (ci : Kd.C Kd.string w aa O.length O) (cj : O.length ≤ ab) (hs0_1 : Kd.V Kd.bool 4 w w.heap.size (fun k_ => P0_1_ k_) (.slice Q G.length U) G) (ck : Kd.C (Kd.slice 3 (Kd.int .i64)) w ak F.length F) (cl : F.length ≤ ac) (h : Frb.f k O G F = some r) :
  Calls Try.prog 17 #[.agg #[.slice aa O.length ab, .slice Q G.length U, .slice ak F.length ac]] w fun e w' => ∃ dl : Value, e = .returned (dl) ∧ Kd.R (Kd.int .i64) 3 w' w.heap.size (fun k_ => (w.heap.size ≤ k_)) dl r ∧ Below w.heap.size w w' := by
 have hu45 := Try.underlying45; have cm := aM ci; have cn := aM cj; clear ci cj; have aW := aM (show Kd.V Kd.bool 4 w w.heap.size (fun k_ => (P0_1_ k_ ∨ w.heap.size ≤ k_)) (.slice Q G.length U) G from Kd.V_mono hs0_1 (fun k_ hk => .inl hk)); have bw := aM ck; have co := aM cl; clear ck cl; have HB := aM (Below.refl w.heap.size w); rw [Frb.f] at h; have H := h; clear h; obtain ⟨dp, bF⟩ : ∃ y_ : List (List Bool), y_ = (([G] : List (List Bool))) := ⟨_, rfl⟩
 first | replace H := rI bF H | rw [← bF] at H
 have cp := aM bF; clear bF; have cV := aM H; clear H
 go_enter Try.func17, Try.ntmps17
 go_upto_block 0 with (first | ((with_reducible refine gate_dst (N := 1) rfl ?_); refine be_ (cs := #[.slice aa O.length ab, .slice Q G.length U, .slice ak F.length ac]) (t := 45) ?_; intro D hg w3 dy hb; replace aW := aM (Kd.V_below (Kd.V_elderB (vO aW.out) D (Nat.le_of_eq hg.symm)) hb); have z := aM (dy); have ee := gE hg (bP0 HB); have J := gE hg (bP0 HB); replace HB := hS0 HB hb; clear hb dy hg; obtain ⟨d5, d6, d7, d8, d9, ea⟩ := bG3 z) | ((with_reducible refine gate_dst (N := 11) rfl ?_); refine Kd.N_lit (Kd.slice 4 Kd.bool) _ 23 ?hg (N' := 11) ?hd (xs := ([G] : List (List Bool))) (inner := [.slice Q G.length U]) (ok := (fun k_ => (P0_1_ k_ ∨ w.heap.size ≤ k_) ∧ k_ ≠ D)) (okp := (fun k_ => (P0_1_ k_ ∨ w.heap.size ≤ k_) ∧ k_ ≠ D)) ?hr ?hp (fun _ hk => hk) ((show ∀ k_, w3.heap.size ≤ k_ → (fun k_ => (P0_1_ k_ ∨ w.heap.size ≤ k_) ∧ k_ ≠ D) k_ from fun k_ hk => ⟨(.inr (Nat.le_trans (below_size (bP1 HB J)) hk)), Kd.freshB (g := D) (o := .cells #[.slice aa O.length ab, .slice Q G.length U, .slice ak F.length ac] 45 (0, 0)) (kO z.out) k_ hk⟩) _ (Nat.le_refl _)) (Below.refl _ _) (Nat.le_refl _) (by simp) ?_; (case hd => rfl); (case hg => rfl); (case hr => first | (go_simp; done) | (go_simp; rfl)); (case hp => exact (Reps.one (show Kd.FK (Kd.slice 4 Kd.bool) _ _ G [.slice Q G.length U] from (Kd.FK_slice_mk (Kd.V_reads' (Kd.V_mono (ok' := (fun k_ => (P0_1_ k_ ∨ w.heap.size ≤ k_) ∧ k_ ≠ D)) (aW.out) (fun k_ hk => ⟨hk.1, hk.2⟩))).2.1 (Kd.V_F (Kd.V_mono (ok' := (fun k_ => (P0_1_ k_ ∨ w.heap.size ≤ k_) ∧ k_ ≠ D)) (aW.out) (fun k_ hk => ⟨hk.1, hk.2⟩))))) (Reps.none _ _))); intro ez w5 bP hb hg_ hnew_; clear hg_ hnew_; (first | rw [← cp.out] at bP | (simp only [Int.reduceToNat] at bP; rw [← cp.out] at bP)); replace aW := aM (Kd.V_elder' (vO aW.out) (Kd.N_base bP) hb); have db := aM (Kd.N_lower bP (below_size (bP1 HB J))); replace z := kB z hb; replace HB := hS1 HB J hb; clear hb bP))
 (try simp only [Act.put, sA, sB, sC])
 go_cut [3] (fun v3 wc => ∃ (kq : Nat) (B : List (List Bool)), Aside0 (Frb.j1 kq B O G F = some r) ∧ Aside0 (kq ≤ k) ∧ Aside0 (Kd.N (Kd.slice 4 Kd.bool) 23 wc w.heap.size (fun k_ => (P0_1_ k_ ∨ w.heap.size ≤ k_) ∧ k_ ≠ D) v3 B) ∧ Aside0 (Kd.V Kd.bool 4 wc w.heap.size (fun k_ => (P0_1_ k_ ∨ w.heap.size ≤ k_) ∧ some k_ ≠ (v3 : Value).ownBlock ∧ k_ ≠ D) (.slice Q G.length U) G) ∧ Aside0 (wc.heap[D]? = some (.cells #[(.slice aa O.length ab), (.slice Q G.length U), (.slice ak F.length ac)] 45 (0, 0))) ∧ BA w wc)
 case first =>
  have H := cV.out; clear cV; have H' := aM H; clear H
  go_wp2
  go_loopg [3, 4] k (fun kq v3 v4 w' => ∃ (B : List (List Bool)) (P : Int), v4 = .int .i64 P ∧ Aside0 (Frb.l0 kq B P O G F = some r) ∧ Aside0 (kq ≤ k) ∧ Aside0 (Kd.N (Kd.slice 4 Kd.bool) 23 w' w.heap.size (fun k_ => (P0_1_ k_ ∨ w.heap.size ≤ k_) ∧ k_ ≠ D) v3 B) ∧ Aside0 (Kd.V Kd.bool 4 w' w.heap.size (fun k_ => (P0_1_ k_ ∨ w.heap.size ≤ k_) ∧ some k_ ≠ (v3 : Value).ownBlock ∧ k_ ≠ D) (.slice Q G.length U) G) ∧ Aside0 (w'.heap[D]? = some (.cells #[(.slice aa O.length ab), (.slice Q G.length U), (.slice ak F.length ac)] 45 (0, 0))) ∧ BA w w')
  case atStart => exact ⟨(dp), (1), sI, H', ⟨Nat.le_refl _⟩, ⟨by (with_reducible repeat (first | apply Kd.N_alloc | apply Kd.N_drewN | apply Kd.N_drew)); exact db.out⟩, ⟨by (with_reducible repeat (first | apply Kd.V_alloc | apply Kd.V_drewN | apply Kd.V_drew)); exact Kd.V_mono aW.out (fun _ hk => ⟨hk.1.1, ⟨hk.2, hk.1.2⟩⟩)⟩, kQ z, bT1 HB J⟩
  case round =>
   clear H'
   obtain ⟨B, P, rfl, HA, cP, E, A, z, HB⟩ := hrel; cases gk with
   | zero => exact absurd HA.out (by simp [Frb.l0])
   | succ k1 =>
    have H := HA.out; clear HA; simp only [Frb.l0] at H
    apply iB H <;> clear H <;> intro c7 H
    ·have bI := dT c7; clear c7
     (first | rw [bI] | (simp only [i64_w, i32_w]; rw [bI]) | skip)
     obtain ⟨al, bJ⟩ : ∃ j_ : Int, (wrap64 (P - 1)) = j_ := ⟨_, rfl⟩
     first | rw [bJ] at H | simp only [bJ] at H
     have hji8w : (IntKind.i64.wrap (P - 1)) = al := (i64_w _).trans bJ
     apply iN H; clear H; intro c9 H; have eB := dT c9; clear c9
     apply iN H; clear H; intro cq H; have ef := dT cq; clear cq; apply bSx H; clear H; intro az dm H
     apply iN H; clear H; intro cr H; have ct := aM cr; clear cr; obtain ⟨am, bG⟩ : ∃ y_ : List (List Bool), y_ = (B ++ [az]) := ⟨_, rfl⟩
     first | replace H := rI bG H | rw [← bG] at H
     have cu := aM bG; clear bG
     apply iN H; clear H; intro cv H; have eg := dT cv; clear cv
     apply iN H; clear H; intro cw H; have eh := dT cw; clear cw
     apply iN H; clear H; intro cx H; have ei := dT cx; have ej : decide (0 < (rd_L6 am P).length) = true := dT (by omega); clear cx; obtain ⟨dq, bV⟩ : ∃ b_ : Bool, b_ = (rdOf false (rd_L6 am P) 0) := ⟨_, rfl⟩
     rw [← bV] at H
     have Nbq16 := aM bV; clear bV
     by_cases cy : dq = true
     ·subst cy
      rw [if_pos rfl] at H; have H' := aM H; clear H; obtain ⟨dF, dG, dH, dI, dJ, dK⟩ := bG3 z
      try go_wp2
      replace E := aM (Kd.N_drew E.out); replace A := aM (Kd.V_drew A.out); replace z := kD z; replace HB := aM (below_drew1 HB.out); obtain ⟨eC, bW, cZ⟩ := Kd.N_slice E.out
      (first | subst cZ | obtain ⟨rfl, rfl⟩ := iS cZ)
      have aX : 0 ≤ ((al) : Int) := oT aO; have aY : (al) < (B.length : Int) := oT aO; obtain ⟨an, ba, bb, b1, aq, aA, aC⟩ := at_L6 (Kd.N_reads' E.out).2.2 (al) aX aY; cases b1; obtain ⟨ce406, hce406, hMe406, bc⟩ := Kd.N_get E.out [] (al) aX (by first | exact aY | exact oT aO | (have e_ := (Kd.N_reads' E.out).1; omega)); obtain ⟨ua406_0, uc406_0, rfl, ul406_0, ge406_0⟩ := Kd.FK_slice_open hMe406; have ad := bc 0 _ rfl; rw [Nat.add_zero, show ((Kd.slice 4 Kd.bool)).sz = 1 from rfl, Nat.mul_one] at ad; replace ad := Option.some.inj (ad.symm.trans aq)
      injection ad with hva_ hvn_ hvc_
      rw [hva_] at ge406_0; rw [hvc_] at ul406_0; have HL406_0 := aM (show Kd.V Kd.bool 4 _ w.heap.size _ _ (rd_L6 B (al)) from Kd.V_mk ul406_0 ge406_0); clear hva_ hvn_ hvc_ ge406_0 ul406_0; clear bc hce406; have W := aM aC; have bB := aM aA; clear aC aA; replace aX := eq_true aX; replace aY := eq_true aY; refine start_ (n := 11) (S := fun w' => w'.cell? ⟨D, 0, none⟩ = some (.slice aa O.length ab) ∧ w'.cell? ⟨D, 1, none⟩ = some (.slice Q G.length U) ∧ w'.cell? ⟨D, 2, none⟩ = some (.slice ak F.length ac) ∧ w'.cell? (an.add ((al)).toNat) = some (.slice ba (rd_L6 B (al)).length bb)) (ds := [8, 9]) (bl 11 0) (by kernel_rfl) rfl rfl ⟨(blk_cell z.out 0).trans rfl, (blk_cell z.out 1).trans rfl, (blk_cell z.out 2).trans rfl, aq⟩ (fun a9 => ?_); refine with_tabW Frb.tab5 Frb.bits5 (fun a8 bK => ?_); generalize wr.drew = eP at E A z HB HL406_0 W aq a9 ⊢; refine pu_ 0 19 (bl 11 1) a8 ?_; refine pu_ 2 21 (bl 11 5) a8 ?_; refine pu_ 3 22 (bl 11 13) a8 ?_; refine pu_ 4 23 (bl 11 29) a8 ?_; refine pu_ 5 24 (bl 11 61) a8 ?_; refine tk4_ 1 20 (bl 11 63) a8 bK a9 ?_; refine tk4_ 6 25 (bl 11 127) a8 bK a9 ?_; refine one_ (i := 7) (N := some 26) (bl 11 255) rfl rfl (one_of a8.out (by kernel_rfl)) (by decide) (fun K hK => ?_); refine goes_ Try.func37 (by kernel_rfl) rfl #[.agg #[.slice aa O.length ab, .slice Q G.length U, .slice ak F.length ac], .slice ba (rd_L6 B (al)).length bb] (by rfl) rfl rfl (by (try simp only [List.map_toArray, List.map_cons, List.map_nil]); first | done | (simp only [bJ]; rfl) | rfl | (simp only [List.length_drop, List.length_take]; rfl)) ?_
      with_reducible refine (Fs.calls k1 _ _ O _ _ G _ _ F _ _ (rd_L6 B (al)) az _ ?s1 ?s2 ?s3 ?s4 ?s5 ?s6 ?s7 ?s8 dm.out).mono ?_
      (case s1 => exact cB cm HB)
      (case s2 => exact cn.out)
      (case s3 => exact cO (Kd.V_reads' A.out).2.2)
      (case s4 => exact (Kd.V_reads' A.out).2.1)
      (case s5 => exact cB bw HB)
      (case s6 => exact co.out)
      (case s7 => repeat (first | exact (by repeat (first | (with_reducible exact W.out) | (with_reducible refine Kd.C_alloc ?_ _) | (with_reducible refine Kd.C_drewN ?_ _) | (with_reducible refine Kd.C_drew ?_) | exact W.out)) | (with_reducible refine Kd.C_alloc ?_ _) | (with_reducible refine Kd.C_drewN ?_ _) | (with_reducible refine Kd.C_drew ?_)))
      (case s8 => exact bB.out)
      rintro e eQ ⟨dr, rfl, bd, hb⟩; have HS3_ := (hb.cell (World.block_lt_of_cell? _ _ (a9.2.2.2))).trans (a9.2.2.2); refine ⟨_, rfl, ?_⟩; replace E := aM (Kd.N_elder' (by (with_reducible repeat (first | apply Kd.N_alloc | apply Kd.N_drewN | apply Kd.N_drew)); exact E.out) (Kd.R_base bd) hb); replace A := aM (Kd.V_elder' (vO A.out) (Kd.R_base bd) hb); replace HL406_0 := aM (Kd.V_elder' (by (with_reducible repeat (first | apply Kd.V_alloc | apply Kd.V_drewN | apply Kd.V_drew)); exact HL406_0.out) (Kd.R_base bd) hb); have ay := rW (Kd.R_newM (M := fun k_ => (w.heap.size ≤ k_)) bd (below_size (bP1 HB J)) (fun k_ h_ => h_)) (bP1 HB J); replace z := kB z hb; replace W := aM (Kd.C_below (by repeat (first | (with_reducible exact W.out) | (with_reducible refine Kd.C_alloc ?_ _) | (with_reducible refine Kd.C_drewN ?_ _) | (with_reducible refine Kd.C_drew ?_) | exact W.out)) hb); replace HB := hS1 HB J hb
      obtain ⟨b2, b3, c0⟩ := sL ay
      (first | subst c0 | obtain ⟨rfl, rfl⟩ := iS c0)
      refine hK.out _ _ ⟨(blk_cell z.out 0).trans rfl, (blk_cell z.out 1).trans rfl, (blk_cell z.out 2).trans rfl, HS3_⟩ (fun a9 => ?_); clear hK K; refine nm_ 26 ?_; refine last_ (i := 8) (N := some 27) (bl 11 511) rfl rfl (one_of a8.out (by kernel_rfl)) (by decide) (fun K hK => ?_); refine value_ (w1 := ?_) (v := ?_) (by rfl) rfl ?_ ?_; rotate_left 2
      ·go_simp
       constructor
       ·rfl
       ·rfl
      refine hK.out _ _ ?_; clear hK K; refine nm_ 27 ?_; refine last_ (i := 9) (N := some 28) (bl 11 1023) rfl rfl (one_of a8.out (by kernel_rfl)) (by decide) (fun K hK => ?_); refine Kd.N_append_step (Kd.slice 4 Kd.bool) (w0 := w) w.heap.size (by rfl) (.tmp 19) (.tmp 27) 78 23 (.slice none 0 0) 24 rfl Try.underlying78 info23 rfl (by decide) (by omega) (.slice (some an) B.length bW) B az [.slice b2 az.length b3] (fun k_ => (P0_1_ k_ ∨ w.heap.size ≤ k_) ∧ k_ ≠ D) (fun k_ => ((fun k_ => (P0_1_ k_ ∨ w.heap.size ≤ k_) ∧ k_ ≠ D)) k_ ∧ some k_ ≠ (.slice (some an) B.length bW : Value).ownBlock) rfl rfl ?aP (fun _ hk => hk) ?aF ?aO ?aB ?aS ?aL ?_
      (case aP => exact (Kd.FK_slice_mk (Kd.R_reads' (Kd.R_mono (ok' := (fun k_ => ((fun k_ => (P0_1_ k_ ∨ w.heap.size ≤ k_) ∧ k_ ≠ D)) k_ ∧ some k_ ≠ (.slice (some an) B.length bW : Value).ownBlock)) (Kd.R_types (Kd.R_apart' (ay.out) (Kd.N_typed E.out) (by decide)) z.out (by decide)) (fun k_ hk => ⟨⟨(.inr (hk.1.1.1)), hk.2⟩, hk.1.2⟩))).2.1 (Kd.R_F (Kd.R_mono (ok' := (fun k_ => ((fun k_ => (P0_1_ k_ ∨ w.heap.size ≤ k_) ∧ k_ ≠ D)) k_ ∧ some k_ ≠ (.slice (some an) B.length bW : Value).ownBlock)) (Kd.R_types (Kd.R_apart' (ay.out) (Kd.N_typed E.out) (by decide)) z.out (by decide)) (fun k_ hk => ⟨⟨(.inr (hk.1.1.1)), hk.2⟩, hk.1.2⟩)))))
      (case aB => exact (bP1 HB J))
      (case aF => exact (fun k_ hk => ⟨(.inr (Nat.le_trans (below_size (bP1 HB J)) hk)), Kd.freshB (g := D) (o := .cells #[.slice aa O.length ab, .slice Q G.length U, .slice ak F.length ac] 45 (0, 0)) (kO z.out) k_ hk⟩))
      (case aO => exact (by (with_reducible repeat (first | apply Kd.N_alloc | apply Kd.N_drewN | apply Kd.N_drew)); exact Kd.N_mono E.out (fun _ hk => ⟨hk.1.1, hk.1.2⟩)))
      (case aS => exact (below_size (bP1 HB J)))
      (case aL => have := ct.out; omega)
      intro dt eR ho hb hg hat; rw [← cu.out] at ho; replace A := aM (Kd.V_afterv (ok := (fun k_ => (P0_1_ k_ ∨ w.heap.size ≤ k_) ∧ some k_ ≠ (.slice b2 az.length b3 : Value).ownBlock ∧ k_ ≠ D)) (by (with_reducible repeat (first | apply Kd.V_alloc | apply Kd.V_drewN | apply Kd.V_drew)); exact Kd.V_mono A.out (fun _ hk => ⟨⟨hk.1.1, ⟨hk.2, hk.1.2.2⟩⟩, hk.1.2.1⟩)) hg hat); replace z := aM (blk_grown (g := D) (o := .cells #[.slice aa O.length ab, .slice Q G.length U, .slice ak F.length ac] 45 (0, 0)) (kO z.out) hg (Kd.N_ne E.out z.out (by decide))); replace HL406_0 := aM (Kd.V_afterv (ok := (fun k_ => (P0_1_ k_ ∨ w.heap.size ≤ k_) ∧ some k_ ≠ (.slice b2 az.length b3 : Value).ownBlock ∧ k_ ≠ D)) (by (with_reducible repeat (first | apply Kd.V_alloc | apply Kd.V_drewN | apply Kd.V_drew)); exact Kd.V_mono HL406_0.out (fun _ hk => ⟨⟨hk.1.1.1, ⟨hk.2, hk.1.1.2⟩⟩, hk.1.2⟩)) hg hat); replace HB := aM (hb); have ao := aM (ho); clear E; clear ay; clear ho hb hg hat; refine hK.out _ _ ?_; clear hK K; refine nm_ 28 ?_; refine pu_ 10 3 (bl 11 2047) a8 ?_; refine done_ (done_of a8.out (by kernel_rfl)) ?_; obtain ⟨eD, eE, du⟩ := Kd.N_slice ao.out; subst du; have aZ : 0 ≤ (P : Int) := oT aO; have a3 : P < (am.length : Int) := oT aO; obtain ⟨dd, c1, c2, b4, bC, aD, aE⟩ := at_L6 (Kd.N_reads' ao.out).2.2 P aZ a3; cases b4; obtain ⟨ce413, hce413, hMe413, be⟩ := Kd.N_get ao.out [] P aZ (by first | exact a3 | exact oT aO | (have e_ := (Kd.N_reads' ao.out).1; omega)); obtain ⟨ua413_0, uc413_0, rfl, ul413_0, ge413_0⟩ := Kd.FK_slice_open hMe413; have ae := be 0 _ rfl; rw [Nat.add_zero, show ((Kd.slice 4 Kd.bool)).sz = 1 from rfl, Nat.mul_one] at ae; replace ae := Option.some.inj (ae.symm.trans bC)
      injection ae with hva_ hvn_ hvc_
      rw [hva_] at ge413_0; rw [hvc_] at ul413_0; have HL413_0 := aM (show Kd.V Kd.bool 4 _ w.heap.size _ _ (rd_L6 am P) from Kd.V_mk ul413_0 ge413_0); clear hva_ hvn_ hvc_ ge413_0 ul413_0; clear be hce413; have aG := aM aE; have cQ := aM aD; clear aE aD; replace aZ := eq_true aZ; replace a3 := eq_true a3; have bk : 0 ≤ (0 : Int) := (by omega); have bm : 0 < ((rd_L6 am P).length : Int) := oT aO; obtain ⟨de, b5, ar⟩ := Kd.at_bool (by repeat (first | (with_reducible exact aG.out) | (with_reducible refine Kd.C_alloc ?_ _) | (with_reducible refine Kd.C_drewN ?_ _) | (with_reducible refine Kd.C_drew ?_) | exact aG.out)) 0 bk bm
      (try rw [← Nbq16.out] at ar)
      cases b5; have qi414 : (0 < (rd_L6 am P).length) = True := eq_true (by omega)
      (try rw [show ((0 : Int)).toNat = 0 from rfl] at ar)
      (try rw [Addr.add_zero'] at ar)
      replace bk := eq_true bk; replace bm := eq_true bm
      try go_wp2
      go_meet
      case rel => exact ⟨_, (am), H', ⟨by have := cP.out; first | omega | exact Nat.le_refl _⟩, ⟨by (with_reducible repeat (first | apply Kd.N_alloc | apply Kd.N_drewN | apply Kd.N_drew)); exact ao.out⟩, ⟨by (with_reducible repeat (first | apply Kd.V_alloc | apply Kd.V_drewN | apply Kd.V_drew)); exact Kd.V_mono A.out (fun _ hk => ⟨hk.1.1, ⟨hk.2, hk.1.2.2⟩⟩)⟩, kQ z, bT1 HB J⟩
     ·replace cy := Bool.eq_false_iff.mpr cy; subst cy
      rw [if_neg nF] at H; have H' := aM H; clear H; obtain ⟨dL, dM, dN, dO, dP, dQ⟩ := bG3 z
      try go_wp2
      replace E := aM (Kd.N_drew E.out); replace A := aM (Kd.V_drew A.out); replace z := kD z; replace HB := aM (below_drew1 HB.out); obtain ⟨eF, bX, c3⟩ := Kd.N_slice E.out
      (first | subst c3 | obtain ⟨rfl, rfl⟩ := iS c3)
      have aX : 0 ≤ ((al) : Int) := oT aO; have aY : (al) < (B.length : Int) := oT aO; obtain ⟨an, ba, bb, b1, aq, aA, aC⟩ := at_L6 (Kd.N_reads' E.out).2.2 (al) aX aY; cases b1; obtain ⟨ce406, hce406, hMe406, bc⟩ := Kd.N_get E.out [] (al) aX (by first | exact aY | exact oT aO | (have e_ := (Kd.N_reads' E.out).1; omega)); obtain ⟨ua406_0, uc406_0, rfl, ul406_0, ge406_0⟩ := Kd.FK_slice_open hMe406; have ad := bc 0 _ rfl; rw [Nat.add_zero, show ((Kd.slice 4 Kd.bool)).sz = 1 from rfl, Nat.mul_one] at ad; replace ad := Option.some.inj (ad.symm.trans aq)
      injection ad with hva_ hvn_ hvc_
      rw [hva_] at ge406_0; rw [hvc_] at ul406_0; have HL406_0 := aM (show Kd.V Kd.bool 4 _ w.heap.size _ _ (rd_L6 B (al)) from Kd.V_mk ul406_0 ge406_0); clear hva_ hvn_ hvc_ ge406_0 ul406_0; clear bc hce406; have W := aM aC; have bB := aM aA; clear aC aA; replace aX := eq_true aX; replace aY := eq_true aY; refine start_ (n := 11) (S := fun w' => w'.cell? ⟨D, 0, none⟩ = some (.slice aa O.length ab) ∧ w'.cell? ⟨D, 1, none⟩ = some (.slice Q G.length U) ∧ w'.cell? ⟨D, 2, none⟩ = some (.slice ak F.length ac) ∧ w'.cell? (an.add ((al)).toNat) = some (.slice ba (rd_L6 B (al)).length bb)) (ds := [8, 9]) (bl 11 0) (by kernel_rfl) rfl rfl ⟨(blk_cell z.out 0).trans rfl, (blk_cell z.out 1).trans rfl, (blk_cell z.out 2).trans rfl, aq⟩ (fun a9 => ?_); refine with_tabW Frb.tab5 Frb.bits5 (fun a8 bK => ?_); generalize wr.drew = eS at E A z HB HL406_0 W aq a9 ⊢; refine pu_ 0 19 (bl 11 1) a8 ?_; refine pu_ 2 21 (bl 11 5) a8 ?_; refine pu_ 3 22 (bl 11 13) a8 ?_; refine pu_ 4 23 (bl 11 29) a8 ?_; refine pu_ 5 24 (bl 11 61) a8 ?_; refine tk4_ 1 20 (bl 11 63) a8 bK a9 ?_; refine tk4_ 6 25 (bl 11 127) a8 bK a9 ?_; refine one_ (i := 7) (N := some 26) (bl 11 255) rfl rfl (one_of a8.out (by kernel_rfl)) (by decide) (fun K hK => ?_); refine goes_ Try.func37 (by kernel_rfl) rfl #[.agg #[.slice aa O.length ab, .slice Q G.length U, .slice ak F.length ac], .slice ba (rd_L6 B (al)).length bb] (by rfl) rfl rfl (by (try simp only [List.map_toArray, List.map_cons, List.map_nil]); first | done | (simp only [bJ]; rfl) | rfl | (simp only [List.length_drop, List.length_take]; rfl)) ?_
      with_reducible refine (Fs.calls k1 _ _ O _ _ G _ _ F _ _ (rd_L6 B (al)) az _ ?s1 ?s2 ?s3 ?s4 ?s5 ?s6 ?s7 ?s8 dm.out).mono ?_
      (case s1 => exact cB cm HB)
      (case s2 => exact cn.out)
      (case s3 => exact cO (Kd.V_reads' A.out).2.2)
      (case s4 => exact (Kd.V_reads' A.out).2.1)
      (case s5 => exact cB bw HB)
      (case s6 => exact co.out)
      (case s7 => repeat (first | exact (by repeat (first | (with_reducible exact W.out) | (with_reducible refine Kd.C_alloc ?_ _) | (with_reducible refine Kd.C_drewN ?_ _) | (with_reducible refine Kd.C_drew ?_) | exact W.out)) | (with_reducible refine Kd.C_alloc ?_ _) | (with_reducible refine Kd.C_drewN ?_ _) | (with_reducible refine Kd.C_drew ?_)))
      (case s8 => exact bB.out)
      rintro e eT ⟨dr, rfl, bd, hb⟩; have HS3_ := (hb.cell (World.block_lt_of_cell? _ _ (a9.2.2.2))).trans (a9.2.2.2); refine ⟨_, rfl, ?_⟩; replace E := aM (Kd.N_elder' (by (with_reducible repeat (first | apply Kd.N_alloc | apply Kd.N_drewN | apply Kd.N_drew)); exact E.out) (Kd.R_base bd) hb); replace A := aM (Kd.V_elder' (vO A.out) (Kd.R_base bd) hb); replace HL406_0 := aM (Kd.V_elder' (by (with_reducible repeat (first | apply Kd.V_alloc | apply Kd.V_drewN | apply Kd.V_drew)); exact HL406_0.out) (Kd.R_base bd) hb); have ay := rW (Kd.R_newM (M := fun k_ => (w.heap.size ≤ k_)) bd (below_size (bP1 HB J)) (fun k_ h_ => h_)) (bP1 HB J); replace z := kB z hb; replace W := aM (Kd.C_below (by repeat (first | (with_reducible exact W.out) | (with_reducible refine Kd.C_alloc ?_ _) | (with_reducible refine Kd.C_drewN ?_ _) | (with_reducible refine Kd.C_drew ?_) | exact W.out)) hb); replace HB := hS1 HB J hb
      obtain ⟨b6, b7, c4⟩ := sL ay
      (first | subst c4 | obtain ⟨rfl, rfl⟩ := iS c4)
      refine hK.out _ _ ⟨(blk_cell z.out 0).trans rfl, (blk_cell z.out 1).trans rfl, (blk_cell z.out 2).trans rfl, HS3_⟩ (fun a9 => ?_); clear hK K; refine nm_ 26 ?_; refine last_ (i := 8) (N := some 27) (bl 11 511) rfl rfl (one_of a8.out (by kernel_rfl)) (by decide) (fun K hK => ?_); refine value_ (w1 := ?_) (v := ?_) (by rfl) rfl ?_ ?_; rotate_left 2
      ·go_simp
       constructor
       ·rfl
       ·rfl
      refine hK.out _ _ ?_; clear hK K; refine nm_ 27 ?_; refine last_ (i := 9) (N := some 28) (bl 11 1023) rfl rfl (one_of a8.out (by kernel_rfl)) (by decide) (fun K hK => ?_); refine Kd.N_append_step (Kd.slice 4 Kd.bool) (w0 := w) w.heap.size (by rfl) (.tmp 19) (.tmp 27) 78 23 (.slice none 0 0) 24 rfl Try.underlying78 info23 rfl (by decide) (by omega) (.slice (some an) B.length bX) B az [.slice b6 az.length b7] (fun k_ => (P0_1_ k_ ∨ w.heap.size ≤ k_) ∧ k_ ≠ D) (fun k_ => ((fun k_ => (P0_1_ k_ ∨ w.heap.size ≤ k_) ∧ k_ ≠ D)) k_ ∧ some k_ ≠ (.slice (some an) B.length bX : Value).ownBlock) rfl rfl ?aP (fun _ hk => hk) ?aF ?aO ?aB ?aS ?aL ?_
      (case aP => exact (Kd.FK_slice_mk (Kd.R_reads' (Kd.R_mono (ok' := (fun k_ => ((fun k_ => (P0_1_ k_ ∨ w.heap.size ≤ k_) ∧ k_ ≠ D)) k_ ∧ some k_ ≠ (.slice (some an) B.length bX : Value).ownBlock)) (Kd.R_types (Kd.R_apart' (ay.out) (Kd.N_typed E.out) (by decide)) z.out (by decide)) (fun k_ hk => ⟨⟨(.inr (hk.1.1.1)), hk.2⟩, hk.1.2⟩))).2.1 (Kd.R_F (Kd.R_mono (ok' := (fun k_ => ((fun k_ => (P0_1_ k_ ∨ w.heap.size ≤ k_) ∧ k_ ≠ D)) k_ ∧ some k_ ≠ (.slice (some an) B.length bX : Value).ownBlock)) (Kd.R_types (Kd.R_apart' (ay.out) (Kd.N_typed E.out) (by decide)) z.out (by decide)) (fun k_ hk => ⟨⟨(.inr (hk.1.1.1)), hk.2⟩, hk.1.2⟩)))))
      (case aB => exact (bP1 HB J))
      (case aF => exact (fun k_ hk => ⟨(.inr (Nat.le_trans (below_size (bP1 HB J)) hk)), Kd.freshB (g := D) (o := .cells #[.slice aa O.length ab, .slice Q G.length U, .slice ak F.length ac] 45 (0, 0)) (kO z.out) k_ hk⟩))
      (case aO => exact (by (with_reducible repeat (first | apply Kd.N_alloc | apply Kd.N_drewN | apply Kd.N_drew)); exact Kd.N_mono E.out (fun _ hk => ⟨hk.1.1, hk.1.2⟩)))
      (case aS => exact (below_size (bP1 HB J)))
      (case aL => have := ct.out; omega)
      intro dt eU ho hb hg hat; rw [← cu.out] at ho; replace A := aM (Kd.V_afterv (ok := (fun k_ => (P0_1_ k_ ∨ w.heap.size ≤ k_) ∧ some k_ ≠ (.slice b6 az.length b7 : Value).ownBlock ∧ k_ ≠ D)) (by (with_reducible repeat (first | apply Kd.V_alloc | apply Kd.V_drewN | apply Kd.V_drew)); exact Kd.V_mono A.out (fun _ hk => ⟨⟨hk.1.1, ⟨hk.2, hk.1.2.2⟩⟩, hk.1.2.1⟩)) hg hat); replace z := aM (blk_grown (g := D) (o := .cells #[.slice aa O.length ab, .slice Q G.length U, .slice ak F.length ac] 45 (0, 0)) (kO z.out) hg (Kd.N_ne E.out z.out (by decide))); replace HL406_0 := aM (Kd.V_afterv (ok := (fun k_ => (P0_1_ k_ ∨ w.heap.size ≤ k_) ∧ some k_ ≠ (.slice b6 az.length b7 : Value).ownBlock ∧ k_ ≠ D)) (by (with_reducible repeat (first | apply Kd.V_alloc | apply Kd.V_drewN | apply Kd.V_drew)); exact Kd.V_mono HL406_0.out (fun _ hk => ⟨⟨hk.1.1.1, ⟨hk.2, hk.1.1.2⟩⟩, hk.1.2⟩)) hg hat); replace HB := aM (hb); have ao := aM (ho); clear E; clear ay; clear ho hb hg hat; refine hK.out _ _ ?_; clear hK K; refine nm_ 28 ?_; refine pu_ 10 3 (bl 11 2047) a8 ?_; refine done_ (done_of a8.out (by kernel_rfl)) ?_; obtain ⟨eG, eH, dv⟩ := Kd.N_slice ao.out; subst dv; have aZ : 0 ≤ (P : Int) := oT aO; have a3 : P < (am.length : Int) := oT aO; obtain ⟨dd, c1, c2, b4, bC, aD, aE⟩ := at_L6 (Kd.N_reads' ao.out).2.2 P aZ a3; cases b4; obtain ⟨ce413, hce413, hMe413, be⟩ := Kd.N_get ao.out [] P aZ (by first | exact a3 | exact oT aO | (have e_ := (Kd.N_reads' ao.out).1; omega)); obtain ⟨ua413_0, uc413_0, rfl, ul413_0, ge413_0⟩ := Kd.FK_slice_open hMe413; have ae := be 0 _ rfl; rw [Nat.add_zero, show ((Kd.slice 4 Kd.bool)).sz = 1 from rfl, Nat.mul_one] at ae; replace ae := Option.some.inj (ae.symm.trans bC)
      injection ae with hva_ hvn_ hvc_
      rw [hva_] at ge413_0; rw [hvc_] at ul413_0; have HL413_0 := aM (show Kd.V Kd.bool 4 _ w.heap.size _ _ (rd_L6 am P) from Kd.V_mk ul413_0 ge413_0); clear hva_ hvn_ hvc_ ge413_0 ul413_0; clear be hce413; have aG := aM aE; have cQ := aM aD; clear aE aD; replace aZ := eq_true aZ; replace a3 := eq_true a3; have bk : 0 ≤ (0 : Int) := (by omega); have bm : 0 < ((rd_L6 am P).length : Int) := oT aO; obtain ⟨de, b5, ar⟩ := Kd.at_bool (by repeat (first | (with_reducible exact aG.out) | (with_reducible refine Kd.C_alloc ?_ _) | (with_reducible refine Kd.C_drewN ?_ _) | (with_reducible refine Kd.C_drew ?_) | exact aG.out)) 0 bk bm
      (try rw [← Nbq16.out] at ar)
      cases b5; have qi414 : (0 < (rd_L6 am P).length) = True := eq_true (by omega)
      (try rw [show ((0 : Int)).toNat = 0 from rfl] at ar)
      (try rw [Addr.add_zero'] at ar)
      replace bk := eq_true bk; replace bm := eq_true bm
      try go_wp2
      go_roundg k1
      case measure => have := cP.out; omega
      case rel => exact ⟨(am), (wrap64 (P + 1)), sI, H', ⟨by have := cP.out; omega⟩, ⟨by (with_reducible repeat (first | apply Kd.N_alloc | apply Kd.N_drewN | apply Kd.N_drew)); exact ao.out⟩, ⟨by (with_reducible repeat (first | apply Kd.V_alloc | apply Kd.V_drewN | apply Kd.V_drew)); exact Kd.V_mono A.out (fun _ hk => ⟨hk.1.1, ⟨hk.2, hk.1.2.2⟩⟩)⟩, kQ z, bT1 HB J⟩
    ·have bI := decide_eq_false c7; clear c7
     (first | rw [bI] | (simp only [i64_w, i32_w]; rw [bI]) | skip)
     have H' := aM H; clear H; obtain ⟨dR, dS, dU, dV, dW, dX⟩ := bG3 z
     go_wp2
     go_meet
     case rel => exact ⟨_, (B), H', ⟨by have := cP.out; first | omega | exact Nat.le_refl _⟩, ⟨by (with_reducible repeat (first | apply Kd.N_alloc | apply Kd.N_drewN | apply Kd.N_drew)); exact E.out⟩, ⟨vO A.out⟩, kQ z, bT1 HB J⟩
 case rest =>
  clear cV
  obtain ⟨kq, B, HA, HJ1, E, A, z, HB⟩ := hcut; cases kq with
  | zero => exact absurd HA.out (by simp [Frb.j1])
  | succ dn =>
   have H := HA.out; clear HA; simp only [Frb.j1] at H; obtain ⟨Z, bi⟩ : ∃ j_ : Int, (wrap64 ((B.length : Int) - 1)) = j_ := ⟨_, rfl⟩
   first | rw [bi] at H | simp only [bi] at H
   have hji33w : (IntKind.i64.wrap ((B.length : Int) - 1)) = Z := (i64_w _).trans bi
   apply iN H; clear H; intro cz H; have ek := dT cz; clear cz
   apply iN H; clear H; intro cA H; have el := dT cA; clear cA
   apply iN H; clear H; intro cC H; have em := dT cC; have en : decide (0 < (rd_L6 B (Z)).length) = true := dT (by omega); clear cC; obtain ⟨dw, bY⟩ : ∃ b_ : Bool, b_ = (rdOf false (rd_L6 B (Z)) 0) := ⟨_, rfl⟩
   rw [← bY] at H
   have Nbq37 := aM bY; clear bY
   by_cases cD : (dw = true)
   ·subst cD
    rw [if_pos rfl] at H; have H' := aM H; clear H; obtain ⟨eI, bD, dx⟩ := Kd.N_slice E.out; subst dx; have a4 : 0 ≤ ((Z) : Int) := oT aO; have a5 : (Z) < (B.length : Int) := oT aO; obtain ⟨ap, c5, c6, b8, bE, aH, aI⟩ := at_L6 (Kd.N_reads' E.out).2.2 (Z) a4 a5; cases b8; obtain ⟨ce415, hce415, hMe415, bf⟩ := Kd.N_get E.out [] (Z) a4 (by first | exact a5 | exact oT aO | (have e_ := (Kd.N_reads' E.out).1; omega)); obtain ⟨ua415_0, uc415_0, rfl, ul415_0, ge415_0⟩ := Kd.FK_slice_open hMe415; have af := bf 0 _ rfl; rw [Nat.add_zero, show ((Kd.slice 4 Kd.bool)).sz = 1 from rfl, Nat.mul_one] at af; replace af := Option.some.inj (af.symm.trans bE)
    injection af with hva_ hvn_ hvc_
    rw [hva_] at ge415_0; rw [hvc_] at ul415_0; have HL415_0 := aM (show Kd.V Kd.bool 4 _ w.heap.size _ _ (rd_L6 B (Z)) from Kd.V_mk ul415_0 ge415_0); clear hva_ hvn_ hvc_ ge415_0 ul415_0; clear bf hce415; have aJ := aM aI; have cR := aM aH; clear aI aH; replace a4 := eq_true a4; replace a5 := eq_true a5; have bn : 0 ≤ (0 : Int) := (by omega); have bo : 0 < ((rd_L6 B (Z)).length : Int) := oT aO; obtain ⟨df, b9, au⟩ := Kd.at_bool (by repeat (first | (with_reducible exact aJ.out) | (with_reducible refine Kd.C_alloc ?_ _) | (with_reducible refine Kd.C_drewN ?_ _) | (with_reducible refine Kd.C_drew ?_) | exact aJ.out)) 0 bn bo
    (try rw [← Nbq37.out] at au)
    cases b9; have qi416 : (0 < (rd_L6 B (Z)).length) = True := eq_true (by omega)
    (try rw [show ((0 : Int)).toNat = 0 from rfl] at au)
    (try rw [Addr.add_zero'] at au)
    replace bn := eq_true bn; replace bo := eq_true bo
    go_wp2
    go_loopg [5, 6, 7] dn (fun kq v5 v6 v7 w' => ∃ (bp : Int) (bg : List Int) (I : Int), v5 = .int .i64 bp ∧ v7 = .int .i64 I ∧ Aside0 (Frb.l1 kq B bp bg I O G F = some r) ∧ Aside0 (kq ≤ dn) ∧ Aside0 (Kd.N (Kd.slice 4 Kd.bool) 23 w' w.heap.size (fun k_ => (P0_1_ k_ ∨ w.heap.size ≤ k_) ∧ some k_ ≠ (v6 : Value).ownBlock ∧ k_ ≠ D) (.slice (some ap) B.length bD) B) ∧ Aside0 (Kd.R (Kd.int .i64) 3 w' w.heap.size (fun k_ => (w.heap.size ≤ k_)) v6 bg) ∧ Aside0 (Kd.V Kd.bool 4 w' w.heap.size (fun k_ => (P0_1_ k_ ∨ w.heap.size ≤ k_) ∧ some k_ ≠ ((.slice (some ap) B.length bD) : Value).ownBlock ∧ some k_ ≠ (v6 : Value).ownBlock ∧ k_ ≠ D) (.slice Q G.length U) G) ∧ Aside0 (w'.heap[D]? = some (.cells #[(.slice aa O.length ab), (.slice Q G.length U), (.slice ak F.length ac)] 45 (0, 0))) ∧ BA w w')
    case atStart => exact ⟨(Z), (([] : List Int)), (0), (by first | rfl | (simp; done) | (simp only [← bi] <;> (first | rfl | simp)) | (simp [*]; done)), sI, H', ⟨Nat.le_refl _⟩, ⟨by (with_reducible repeat (first | apply Kd.N_alloc | apply Kd.N_drewN | apply Kd.N_drew)); exact Kd.N_mono E.out (fun _ hk => ⟨hk.1, ⟨(by simp [Value.ownBlock]), hk.2⟩⟩)⟩, ⟨by first | exact Kd.R_nil _ _ _ _ _ | exact Kd.N_nil _ _ _ _ _ | exact Kd.V_nil _ _ _ _ _ | exact Kd.Q_nil _ _ _ _ _ | exact Kd.S_nil _ _ _ _ _⟩, ⟨by (with_reducible repeat (first | apply Kd.V_alloc | apply Kd.V_drewN | apply Kd.V_drew)); exact Kd.V_mono A.out (fun _ hk => ⟨hk.1, ⟨hk.2.1, ⟨(by simp [Value.ownBlock]), hk.2.2⟩⟩⟩)⟩, kQ z, bT1 HB J⟩
    case round =>
     clear H'
     obtain ⟨bp, bg, I, rfl, rfl, HA, cW, E, av, A, z, HB⟩ := hrel; cases gk with
     | zero => exact absurd HA.out (by simp [Frb.l1])
     | succ k2 =>
      have H := HA.out; clear HA; simp only [Frb.l1] at H
      apply iB H <;> clear H <;> intro bQ H
      ·have dg := dT bQ; clear bQ; have H' := aM H; clear H
       go_wp2
       go_loopg [8] k2 (fun kq v8 w' => ∃ (L : Int), v8 = .int .i64 L ∧ Aside0 (Frb.l2 kq B (wrap64 (bp - 1)) bg I L O G F = some r) ∧ Aside0 (kq ≤ k2) ∧ Aside0 (Kd.N (Kd.slice 4 Kd.bool) 23 w' w.heap.size (fun k_ => (P0_1_ k_ ∨ w.heap.size ≤ k_) ∧ some k_ ≠ (u6 : Value).ownBlock ∧ k_ ≠ D) (.slice (some ap) B.length bD) B) ∧ Aside0 (Kd.R (Kd.int .i64) 3 w' w.heap.size (fun k_ => (w.heap.size ≤ k_)) u6 bg) ∧ Aside0 (Kd.V Kd.bool 4 w' w.heap.size (fun k_ => (P0_1_ k_ ∨ w.heap.size ≤ k_) ∧ some k_ ≠ ((.slice (some ap) B.length bD) : Value).ownBlock ∧ some k_ ≠ (u6 : Value).ownBlock ∧ k_ ≠ D) (.slice Q G.length U) G) ∧ Aside0 (w'.heap[D]? = some (.cells #[(.slice aa O.length ab), (.slice Q G.length U), (.slice ak F.length ac)] 45 (0, 0))) ∧ BA w w')
       case atStart => exact ⟨(0), sI, H', ⟨Nat.le_refl _⟩, ⟨by (with_reducible repeat (first | apply Kd.N_alloc | apply Kd.N_drewN | apply Kd.N_drew)); exact E.out⟩, rQ av, ⟨vO A.out⟩, kQ z, bT1 HB J⟩
       case round =>
        clear H'
        obtain ⟨L, rfl, HA, dc, E, av, A, z, HB⟩ := hrel; cases gk with
        | zero => exact absurd HA.out (by simp [Frb.l2])
        | succ k3 =>
         have H := HA.out; clear HA; simp only [Frb.l2] at H; obtain ⟨Y, bx⟩ : ∃ j_ : Int, (wrap64 (bp - 1)) = j_ := ⟨_, rfl⟩
         first | rw [bx] at H | simp only [bx] at H
         have hji41w : (IntKind.i64.wrap (bp - 1)) = Y := (i64_w _).trans bx
         apply iN H; clear H; intro cE H; have eo := dT cE; clear cE
         apply iN H; clear H; intro cF H; have ep := dT cF; clear cF
         apply iN H; clear H; intro cG H; have er := dT cG; clear cG
         apply iN H; clear H; intro cH H; have es := dT cH; clear cH
         apply iN H; clear H; intro cI H; have et := dT cI; clear cI
         apply iN H; clear H; intro cJ H; have eu := dT cJ; clear cJ
         apply iN H; clear H; intro cK H; have ev := dT cK; clear cK
         apply iN H; clear H; intro cL H; have ew := dT cL; clear cL; obtain ⟨dA, bZ⟩ : ∃ b_ : Bool, b_ = (rdOf false (rd_L6 B (Y)) (rd (rd_L4 F I) L)) := ⟨_, rfl⟩
         rw [← bZ] at H
         have Nbq50 := aM bZ; clear bZ
         by_cases cM : (dA = true)
         ·subst cM
          rw [if_pos rfl] at H
          apply iN H; clear H; intro cN H; have dh := aM cN; clear cN; obtain ⟨dB, bH⟩ : ∃ y_ : List Int, y_ = (bg ++ [L]) := ⟨_, rfl⟩
          first | replace H := rI bH H | rw [← bH] at H
          have di := aM bH; clear bH; have H' := aM H; clear H
          try go_wp2
          replace E := aM (Kd.N_drew E.out); replace av := aM (Kd.R_drew av.out); replace A := aM (Kd.V_drew A.out); replace z := kD z; replace HB := aM (below_drew1 HB.out); have a6 : 0 ≤ ((Y) : Int) := oT aO; have a7 : (Y) < (B.length : Int) := oT aO; obtain ⟨b0, c8, bN, ca, aw, aK, aN⟩ := at_L6 (Kd.N_reads' E.out).2.2 (Y) a6 a7; obtain rfl := sJJ ca; obtain ⟨ce417, hce417, hMe417, bh⟩ := Kd.N_get E.out [] (Y) a6 (by first | exact a7 | exact oT aO | (have e_ := (Kd.N_reads' E.out).1; omega)); obtain ⟨ua417_0, uc417_0, rfl, ul417_0, ge417_0⟩ := Kd.FK_slice_open hMe417; have ag := bh 0 _ rfl; rw [Nat.add_zero, show ((Kd.slice 4 Kd.bool)).sz = 1 from rfl, Nat.mul_one] at ag; replace ag := Option.some.inj (ag.symm.trans aw)
          injection ag with hva_ hvn_ hvc_
          rw [hva_] at ge417_0; rw [hvc_] at ul417_0; have HL417_0 := aM (show Kd.V Kd.bool 4 _ w.heap.size _ _ (rd_L6 B (Y)) from Kd.V_mk ul417_0 ge417_0); clear hva_ hvn_ hvc_ ge417_0 ul417_0; clear bh hce417; have ax := aM aN; have cS := aM aK; clear aN aK; replace a6 := eq_true a6; replace a7 := eq_true a7; have bq : 0 ≤ (I : Int) := oT aO; have br : I < (F.length : Int) := oT aO; obtain ⟨bj, da, bO, cb, ah, aQ, aR⟩ := at_L4 bw.out I bq br; have aT := ah; cases cb; replace ah := cX HB ah; have aU := aM aR; have cT := aM aQ; clear aR aQ; replace bq := eq_true bq; replace br := eq_true br; have bs : 0 ≤ (L : Int) := oT aO; have bt : L < ((rd_L4 F I).length : Int) := oT aO; obtain ⟨bz, cc, ai⟩ := Kd.at_int aU.out L bs bt; have aV := ai; cases cc; replace ai := cX HB ai; replace bs := eq_true bs; replace bt := eq_true bt; have bu : 0 ≤ ((rd (rd_L4 F I) L) : Int) := oT aO; have bv : (rd (rd_L4 F I) L) < ((rd_L6 B (Y)).length : Int) := oT aO; obtain ⟨bA, cd, aj⟩ := Kd.at_bool (by repeat (first | (with_reducible exact ax.out) | (with_reducible refine Kd.C_alloc ?_ _) | (with_reducible refine Kd.C_drewN ?_ _) | (with_reducible refine Kd.C_drew ?_) | exact ax.out)) (rd (rd_L4 F I) L) bu bv
          (try rw [← Nbq37.out] at aj)
          (try rw [← Nbq50.out] at aj)
          cases cd; replace bu := eq_true bu; replace bv := eq_true bv; refine start_ (n := 15) (S := fun w' => w'.cell? ⟨D, 0, none⟩ = some (.slice aa O.length ab) ∧ w'.cell? ⟨D, 1, none⟩ = some (.slice Q G.length U) ∧ w'.cell? ⟨D, 2, none⟩ = some (.slice (some bj) F.length ac) ∧ w'.cell? (ap.add ((Y)).toNat) = some (.slice (some bA) (rd_L6 B (Y)).length bN) ∧ w'.cell? (bj.add (I).toNat) = some (.slice (some bz) (rd_L4 F I).length bO) ∧ w'.cell? (bz.add (L).toNat) = some (.int .i64 (rd (rd_L4 F I) L)) ∧ w'.cell? (bA.add ((rd (rd_L4 F I) L)).toNat) = some (.bool true)) (ds := []) (bl 15 0) (by kernel_rfl) rfl rfl ⟨(blk_cell z.out 0).trans rfl, (blk_cell z.out 1).trans rfl, (blk_cell z.out 2).trans rfl, aw, ((HB.out.cell (World.block_lt_of_cell? w _ aT)).trans aT), ((HB.out.cell (World.block_lt_of_cell? w _ aV)).trans aV), aj⟩ (fun a9 => ?_); refine with_tabW Frb.tab15 Frb.bits15 (fun a8 bK => ?_); generalize wr.drew = eV at E av A z HB HL417_0 ax aU aw ah ai aj a9 ⊢; refine pu_ 0 49 (bl 15 1) a8 ?_; refine pu_ 1 50 (bl 15 3) a8 ?_; refine pu_ 2 51 (bl 15 7) a8 ?_; refine pu_ 4 53 (bl 15 23) a8 ?_; refine pu_ 6 55 (bl 15 87) a8 ?_; refine pu_ 9 58 (bl 15 599) a8 ?_; refine tk7_ 3 52 (bl 15 607) a8 bK a9 ?_; refine tk7_ 5 54 (bl 15 639) a8 bK a9 ?_; refine pu_ 7 56 (bl 15 767) a8 ?_; refine tk7_ 8 57 (bl 15 1023) a8 bK a9 ?_; refine pu_ 10 59 (bl 15 2047) a8 ?_; refine tk7_ 11 60 (bl 15 4095) a8 bK a9 ?_; refine pu_ 12 61 (bl 15 8191) a8 ?_; refine tk7_ 13 62 (bl 15 16383) a8 bK a9 ?_; refine pu_ 14 63 (bl 15 32767) a8 ?_; refine done_ (done_of a8.out (by kernel_rfl)) ?_
          try go_wp2_with (first | ((with_reducible refine gate_builtin (b := .append) (xs := #[.tmp 66, .tmp 68]) rfl ?_); at_builtin; refine Kd.R_append (Kd.int .i64) (w0 := w) w.heap.size rfl (.tmp 66) (.tmp 68) 24 3 (.int .i64 0) 8 rfl Try.underlying24 info3 rfl (by decide) (by omega) u6 bg L [.int .i64 L] (fun k_ => (w.heap.size ≤ k_)) (fun _ => False) rfl rfl ?aP (fun _ hk => hk.elim) ?aF ?aO ?aB ?aS ?aL ?_; (case aP => exact rfl); (case aB => exact (bP1 HB J)); (case aF => exact (fun k_ hk => (Nat.le_trans (below_size (bP1 HB J)) hk))); (case aO => exact (rP av)); (case aS => exact (below_size (bP1 HB J))); (case aL => have := dh.out; omega); intro eM eW ho hb hg hat; rw [← di.out] at ho; replace E := aM (Kd.N_afterv (ok := (fun k_ => (P0_1_ k_ ∨ w.heap.size ≤ k_) ∧ k_ ≠ D)) (by (with_reducible repeat (first | apply Kd.N_alloc | apply Kd.N_drewN | apply Kd.N_drew)); exact Kd.N_mono E.out (fun _ hk => ⟨⟨hk.1, hk.2.2⟩, hk.2.1⟩)) hg hat); replace A := aM (Kd.V_afterv (ok := (fun k_ => (P0_1_ k_ ∨ w.heap.size ≤ k_) ∧ some k_ ≠ (.slice (some ap) B.length bD : Value).ownBlock ∧ k_ ≠ D)) (by (with_reducible repeat (first | apply Kd.V_alloc | apply Kd.V_drewN | apply Kd.V_drew)); exact Kd.V_mono A.out (fun _ hk => ⟨⟨hk.1, ⟨hk.2.1, hk.2.2.2⟩⟩, hk.2.2.1⟩)) hg hat); replace z := kG z hg av; replace HL417_0 := aM (Kd.V_afterv (ok := (fun k_ => (P0_1_ k_ ∨ w.heap.size ≤ k_) ∧ some k_ ≠ (.slice (some ap) B.length bD : Value).ownBlock ∧ k_ ≠ D)) (by (with_reducible repeat (first | apply Kd.V_alloc | apply Kd.V_drewN | apply Kd.V_drew)); exact Kd.V_mono HL417_0.out (fun _ hk => ⟨⟨hk.1.1, ⟨hk.2, hk.1.2.2⟩⟩, hk.1.2.1⟩)) hg hat); replace HB := aM (hb); have dj := aM (ho); clear av; clear ho hb hg hat; obtain ⟨dY, dZ, d0, d1, d2, d3⟩ := bG3 z; have ce : 0 ≤ (I : Int) := oT aO; have cf : I < (F.length : Int) := oT aO; obtain ⟨dk, ec, ed, dC, bR, bS, bT⟩ := at_L4 bw.out I ce cf; obtain rfl := sJJ dC; replace bR := cX HB bR; have cU := aM bT; have d4 := aM bS; clear bT bS; replace ce := eq_true ce; replace cf := eq_true cf; obtain ⟨⟨ex, dD, bU⟩, cg, ch⟩ := xAt (Kd.at_int cU.out) L; cases dD; replace bU := cX HB bU; ))
          go_roundg k3
          case measure => have := HJ1.out; have := cW.out; have := dc.out; omega
          case rel => exact ⟨((Y)), (dB), (rd (rd_L4 F I) L), (by first | rfl | (simp; done) | (simp only [← bx] <;> (first | rfl | simp)) | (simp [*]; done)), sI, H', ⟨by have := HJ1.out; have := cW.out; have := dc.out; omega⟩, ⟨by (with_reducible repeat (first | apply Kd.N_alloc | apply Kd.N_drewN | apply Kd.N_drew)); exact Kd.N_mono E.out (fun _ hk => ⟨hk.1.1, ⟨hk.2, hk.1.2⟩⟩)⟩, rQ dj, ⟨by (with_reducible repeat (first | apply Kd.V_alloc | apply Kd.V_drewN | apply Kd.V_drew)); exact Kd.V_mono A.out (fun _ hk => ⟨hk.1.1, ⟨hk.1.2.1, ⟨hk.2, hk.1.2.2⟩⟩⟩)⟩, kQ z, bT1 HB J⟩
         ·replace cM := Bool.eq_false_iff.mpr cM; subst cM
          rw [if_neg nF] at H; have H' := aM H; clear H
          try go_wp2
          replace E := aM (Kd.N_drew E.out); replace av := aM (Kd.R_drew av.out); replace A := aM (Kd.V_drew A.out); replace z := kD z; replace HB := aM (below_drew1 HB.out); have a6 : 0 ≤ ((Y) : Int) := oT aO; have a7 : (Y) < (B.length : Int) := oT aO; obtain ⟨b0, c8, bN, ca, aw, aK, aN⟩ := at_L6 (Kd.N_reads' E.out).2.2 (Y) a6 a7; obtain rfl := sJJ ca; obtain ⟨ce417, hce417, hMe417, bh⟩ := Kd.N_get E.out [] (Y) a6 (by first | exact a7 | exact oT aO | (have e_ := (Kd.N_reads' E.out).1; omega)); obtain ⟨ua417_0, uc417_0, rfl, ul417_0, ge417_0⟩ := Kd.FK_slice_open hMe417; have ag := bh 0 _ rfl; rw [Nat.add_zero, show ((Kd.slice 4 Kd.bool)).sz = 1 from rfl, Nat.mul_one] at ag; replace ag := Option.some.inj (ag.symm.trans aw)
          injection ag with hva_ hvn_ hvc_
          rw [hva_] at ge417_0; rw [hvc_] at ul417_0; have HL417_0 := aM (show Kd.V Kd.bool 4 _ w.heap.size _ _ (rd_L6 B (Y)) from Kd.V_mk ul417_0 ge417_0); clear hva_ hvn_ hvc_ ge417_0 ul417_0; clear bh hce417; have ax := aM aN; have cS := aM aK; clear aN aK; replace a6 := eq_true a6; replace a7 := eq_true a7; have bq : 0 ≤ (I : Int) := oT aO; have br : I < (F.length : Int) := oT aO; obtain ⟨bj, da, bO, cb, ah, aQ, aR⟩ := at_L4 bw.out I bq br; have aT := ah; cases cb; replace ah := cX HB ah; have aU := aM aR; have cT := aM aQ; clear aR aQ; replace bq := eq_true bq; replace br := eq_true br; have bs : 0 ≤ (L : Int) := oT aO; have bt : L < ((rd_L4 F I).length : Int) := oT aO; obtain ⟨bz, cc, ai⟩ := Kd.at_int aU.out L bs bt; have aV := ai; cases cc; replace ai := cX HB ai; replace bs := eq_true bs; replace bt := eq_true bt; have bu : 0 ≤ ((rd (rd_L4 F I) L) : Int) := oT aO; have bv : (rd (rd_L4 F I) L) < ((rd_L6 B (Y)).length : Int) := oT aO; obtain ⟨bA, cd, aj⟩ := Kd.at_bool (by repeat (first | (with_reducible exact ax.out) | (with_reducible refine Kd.C_alloc ?_ _) | (with_reducible refine Kd.C_drewN ?_ _) | (with_reducible refine Kd.C_drew ?_) | exact ax.out)) (rd (rd_L4 F I) L) bu bv
          (try rw [← Nbq37.out] at aj)
          (try rw [← Nbq50.out] at aj)
          cases cd; replace bu := eq_true bu; replace bv := eq_true bv; refine start_ (n := 15) (S := fun w' => w'.cell? ⟨D, 0, none⟩ = some (.slice aa O.length ab) ∧ w'.cell? ⟨D, 1, none⟩ = some (.slice Q G.length U) ∧ w'.cell? ⟨D, 2, none⟩ = some (.slice (some bj) F.length ac) ∧ w'.cell? (ap.add ((Y)).toNat) = some (.slice (some bA) (rd_L6 B (Y)).length bN) ∧ w'.cell? (bj.add (I).toNat) = some (.slice (some bz) (rd_L4 F I).length bO) ∧ w'.cell? (bz.add (L).toNat) = some (.int .i64 (rd (rd_L4 F I) L)) ∧ w'.cell? (bA.add ((rd (rd_L4 F I) L)).toNat) = some (.bool false)) (ds := []) (bl 15 0) (by kernel_rfl) rfl rfl ⟨(blk_cell z.out 0).trans rfl, (blk_cell z.out 1).trans rfl, (blk_cell z.out 2).trans rfl, aw, ((HB.out.cell (World.block_lt_of_cell? w _ aT)).trans aT), ((HB.out.cell (World.block_lt_of_cell? w _ aV)).trans aV), aj⟩ (fun a9 => ?_); refine with_tabW Frb.tab15 Frb.bits15 (fun a8 bK => ?_); generalize wr.drew = eX at E av A z HB HL417_0 ax aU aw ah ai aj a9 ⊢; refine pu_ 0 49 (bl 15 1) a8 ?_; refine pu_ 1 50 (bl 15 3) a8 ?_; refine pu_ 2 51 (bl 15 7) a8 ?_; refine pu_ 4 53 (bl 15 23) a8 ?_; refine pu_ 6 55 (bl 15 87) a8 ?_; refine pu_ 9 58 (bl 15 599) a8 ?_; refine tk7_ 3 52 (bl 15 607) a8 bK a9 ?_; refine tk7_ 5 54 (bl 15 639) a8 bK a9 ?_; refine pu_ 7 56 (bl 15 767) a8 ?_; refine tk7_ 8 57 (bl 15 1023) a8 bK a9 ?_; refine pu_ 10 59 (bl 15 2047) a8 ?_; refine tk7_ 11 60 (bl 15 4095) a8 bK a9 ?_; refine pu_ 12 61 (bl 15 8191) a8 ?_; refine tk7_ 13 62 (bl 15 16383) a8 bK a9 ?_; refine pu_ 14 63 (bl 15 32767) a8 ?_; refine done_ (done_of a8.out (by kernel_rfl)) ?_
          try go_wp2
          subst bx
          go_roundg k3
          case measure => have := HJ1.out; have := cW.out; have := dc.out; omega
          case rel => exact ⟨(wrap64 (L + 1)), sI, H', ⟨by have := HJ1.out; have := cW.out; have := dc.out; omega⟩, ⟨by (with_reducible repeat (first | apply Kd.N_alloc | apply Kd.N_drewN | apply Kd.N_drew)); exact E.out⟩, rQ av, ⟨vO A.out⟩, kQ z, bT1 HB J⟩
      ·have dg := decide_eq_false bQ; clear bQ; obtain rfl := Option.some.inj H
       go_wp2
       go_ret
       exact ⟨_, by first | rfl | (simp [errW_none, errW_some] <;> rfl) | (simp only [← bi]; first | rfl | (simp [errW_none, errW_some] <;> rfl)) | (simp [*, errW_none, errW_some] <;> rfl), rO av.out, bS1 HB.out J.out⟩
   ·replace cD := Bool.eq_false_iff.mpr cD; subst cD
    rw [if_neg nF] at H; obtain rfl := Option.some.inj H; obtain ⟨eN, eO, dE⟩ := Kd.N_slice E.out; subst dE; have a4 : 0 ≤ ((Z) : Int) := oT aO; have a5 : (Z) < (B.length : Int) := oT aO; obtain ⟨ap, c5, c6, b8, bE, aH, aI⟩ := at_L6 (Kd.N_reads' E.out).2.2 (Z) a4 a5; cases b8; obtain ⟨ce415, hce415, hMe415, bf⟩ := Kd.N_get E.out [] (Z) a4 (by first | exact a5 | exact oT aO | (have e_ := (Kd.N_reads' E.out).1; omega)); obtain ⟨ua415_0, uc415_0, rfl, ul415_0, ge415_0⟩ := Kd.FK_slice_open hMe415; have af := bf 0 _ rfl; rw [Nat.add_zero, show ((Kd.slice 4 Kd.bool)).sz = 1 from rfl, Nat.mul_one] at af; replace af := Option.some.inj (af.symm.trans bE)
    injection af with hva_ hvn_ hvc_
    rw [hva_] at ge415_0; rw [hvc_] at ul415_0; have HL415_0 := aM (show Kd.V Kd.bool 4 _ w.heap.size _ _ (rd_L6 B (Z)) from Kd.V_mk ul415_0 ge415_0); clear hva_ hvn_ hvc_ ge415_0 ul415_0; clear bf hce415; have aJ := aM aI; have cR := aM aH; clear aI aH; replace a4 := eq_true a4; replace a5 := eq_true a5; have bn : 0 ≤ (0 : Int) := (by omega); have bo : 0 < ((rd_L6 B (Z)).length : Int) := oT aO; obtain ⟨df, b9, au⟩ := Kd.at_bool (by repeat (first | (with_reducible exact aJ.out) | (with_reducible refine Kd.C_alloc ?_ _) | (with_reducible refine Kd.C_drewN ?_ _) | (with_reducible refine Kd.C_drew ?_) | exact aJ.out)) 0 bn bo
    (try rw [← Nbq37.out] at au)
    cases b9; have qi416 : (0 < (rd_L6 B (Z)).length) = True := eq_true (by omega)
    (try rw [show ((0 : Int)).toNat = 0 from rfl] at au)
    (try rw [Addr.add_zero'] at au)
    replace bn := eq_true bn; replace bo := eq_true bo
    go_wp2
    go_ret
    exact ⟨_, by first | rfl | (simp [errW_none, errW_some] <;> rfl) | (simp only [← bi]; first | rfl | (simp [errW_none, errW_some] <;> rfl)) | (simp [*, errW_none, errW_some] <;> rfl), by first | exact Kd.R_nil _ _ _ _ _ | exact Kd.N_nil _ _ _ _ _ | exact Kd.V_nil _ _ _ _ _ | exact Kd.Q_nil _ _ _ _ _ | exact Kd.S_nil _ _ _ _ _, bS1 HB.out J.out⟩
def Fl.l0 : Nat → Int → Int → Int → Option (Int)
 | 0, _, _, _ => none
 | k + 1, x0, x3, x4 => if x4 < x0 then (Fl.l0 k x0 (wrap64 (x3 * 2)) (wrap64 (x4 + 1))) else (some x3)
def Fl.f (k : Nat) (a0 : Int) : Option (Int) := Fl.l0 k a0 1 0
theorem Fl.mono_l : ∀ k, (∀ y0 y1 y2, LeO (Fl.l0 k y0 y1 y2) (Fl.l0 (k + 1) y0 y1 y2))
 | 0 => fun _ _ _ r h => by simp [Fl.l0] at h
 | k + 1 => by
  have ih0 := Fl.mono_l k
  ·intro y0 y1 y2
   unfold Fl.l0
   repeat' first | (with_reducible first | exact ih0 _ _ _ | exact lA | apply lI | refine lB ?_ fun _ => ?_) | exact lN _ | apply lI | refine lB ?_ fun _ => ?_
theorem Fl.mono : ∀ a0 k, LeO (Fl.f k a0) (Fl.f (k + 1) a0) := by
 intro a0 k; have ih0 := Fl.mono_l k
 unfold Fl.f
 repeat' first | (with_reducible first | exact ih0 _ _ _ | exact lA | apply lI | refine lB ?_ fun _ => ?_) | exact lN _ | apply lI | refine lB ?_ fun _ => ?_
theorem Fl.calls (k : Nat) (C : Int) (r : Int) (w : World) (h : Fl.f k C = some r) :
  Calls Try.prog 54 #[.int .i64 C] w fun e w' => e = .returned (.int .i64 r) ∧ Drawn0 w w' := by
 rw [Fl.f] at h; have H := h; clear h; have G := aM H; clear H
 go_enter Try.func54, Try.ntmps54
 go_wp2
 go_loopg [3, 4] k (fun kq E F w' => ∃ (A : Int) (z : Int), E = .int .i64 A ∧ F = .int .i64 z ∧ Aside0 (Fl.l0 kq C A z = some r) ∧ Aside0 (kq ≤ k) ∧ Drawn0 w w')
 case atStart => exact ⟨(1), (0), sI, sI, G, ⟨Nat.le_refl _⟩, dRw⟩
 case round =>
  clear G; obtain ⟨A, z, rfl, rfl, J, I, ⟨m1, rfl⟩⟩ := hrel; cases gk with
  | zero => exact absurd J.out (by simp [Fl.l0])
  | succ k1 =>
   have H := J.out; clear J; simp only [Fl.l0] at H
   apply iB H <;> clear H <;> intro B H
   ·have D := dT B; clear B; have G := aM H; clear H
    go_wp2
    go_roundg k1
    case measure => have := I.out; omega
    case rel => exact ⟨(wrap64 (A * 2)), (wrap64 (z + 1)), sI, sI, G, ⟨by have := I.out; omega⟩, dRw⟩
   ·have D := decide_eq_false B; clear B; obtain rfl := Option.some.inj H
    go_wp2
    go_ret
    exact ⟨eVl, dRw⟩
def Fjc.l0 : Nat → Int → Bool → List Int → Option (Bool × List Int)
 | 0, _, _, _ => none
 | k + 1, x3, x427000, x427001 => if x3 > 0 then (if 0 ≤ (wrap64 (x3 - 1)) then (if (wrap64 (x3 - 1)) < (x427001.length : Int) then (if (rd x427001 (wrap64 (x3 - 1))) = 0 then (Fjc.l0 k (wrap64 (x3 - 1)) x427000 x427001) else (if x427000 = true then (if 0 ≤ x3 then (if x3 ≤ (x427001.length : Int) then (some (true, (x427001.take (x3 : Int).toNat))) else (none)) else (none)) else (if 0 ≤ x3 then (if x3 ≤ (x427001.length : Int) then (some (false, (x427001.take (x3 : Int).toNat))) else (none)) else (none)))) else (none)) else (none)) else (if x427000 = true then (if 0 ≤ x3 then (if x3 ≤ (x427001.length : Int) then (some (false, (x427001.take (x3 : Int).toNat))) else (none)) else (none)) else (if 0 ≤ x3 then (if x3 ≤ (x427001.length : Int) then (some (false, (x427001.take (x3 : Int).toNat))) else (none)) else (none)))
def Fjc.f (k : Nat) (a0_0 : Bool) (l0_1 : List Int) : Option (Bool × List Int) := Fjc.l0 k (l0_1.length : Int) a0_0 l0_1
theorem Fjc.mono_l : ∀ k, (∀ y0 y1 y2, LeO (Fjc.l0 k y0 y1 y2) (Fjc.l0 (k + 1) y0 y1 y2))
 | 0 => fun _ _ _ r h => by simp [Fjc.l0] at h
 | k + 1 => by
  have ih0 := Fjc.mono_l k
  ·intro y0 y1 y2
   unfold Fjc.l0
   repeat' first | (with_reducible first | exact ih0 _ _ _ | exact lA | apply lI | refine lB ?_ fun _ => ?_) | exact lN _ | apply lI | refine lB ?_ fun _ => ?_
theorem Fjc.mono : ∀ a0 a1 k, LeO (Fjc.f k a0 a1) (Fjc.f (k + 1) a0 a1) := by
 intro a0 a1 k; have ih0 := Fjc.mono_l k
 unfold Fjc.f
 repeat' first | (with_reducible first | exact ih0 _ _ _ | exact lA | apply lI | refine lB ?_ fun _ => ?_) | exact lN _ | apply lI | refine lB ?_ fun _ => ?_
def Fjc.T4 : Bool × List (List Nat × List Nat) := (true, [([], []), ([0], [0]), ([1], [1]), ([2], [2]), ([3, 2], [2, 3]), ([2, 4], [2, 4]), ([], []), ([6], [6]), ([], []), ([], []), ([7, 8, 9], [7, 8, 9]), ([5, 10], [5, 10]), ([11, 2, 0, 1, 2, 3, 4, 5, 6, 7, 8, 9, 10, 11], [11])])
def Fjc.B4 : List Nat := [0, 1, 3, 7, 15, 31, 0, 64, 0, 0, 960, 2047, 4095]
theorem Fjc.tab4 : rtab .any (opsOf Try.f103 4) = Fjc.T4 := by kernel_rfl
theorem Fjc.bits4 : waitsOk Fjc.T4.2 Fjc.B4 = true := by kernel_rfl
theorem Fjc.calls (k : Nat) (ad : Bool) (P0_1_ : Nat → Prop) (J : Option Addr) (L : Nat) (C : List Int) (r1 : Bool) (r2 : List Int) (w : World) (hs0_1 : Kd.V (Kd.int .u64) 137 w w.heap.size (fun k_ => P0_1_ k_) (.slice J C.length L) C) (h : Fjc.f k ad C = some (r1, r2)) :
  Calls Try.prog 103 #[.agg #[.bool ad, .slice J C.length L]] w fun e w' => ∃ ba : Value, e = .returned (.agg #[.bool r1, ba]) ∧ Kd.V (Kd.int .u64) 137 w' w.heap.size (fun k_ => (P0_1_ k_ ∨ w.heap.size ≤ k_)) ba r2 ∧ Below w.heap.size w w' := by
 have hu127 := Try.underlying127; have ae := aM (show Kd.V (Kd.int .u64) 137 w w.heap.size (fun k_ => (P0_1_ k_ ∨ w.heap.size ≤ k_)) (.slice J C.length L) C from Kd.V_mono hs0_1 (fun k_ hk => .inl hk)); have HB := aM (Below.refl w.heap.size w); rw [Fjc.f] at h; have H := h; clear h; have H' := aM H; clear H
 go_enter Try.func103, Try.ntmps103
 go_wp2_with (first | ((with_reducible refine gate_dst (N := 1) rfl ?_); refine be_ (cs := #[.bool ad, .slice J C.length L]) (t := 127) ?_; intro O hg w2 bf hb; replace ae := aM (Kd.V_below (Kd.V_elderB (vO ae.out) O (Nat.le_of_eq hg.symm)) hb); have E := aM (bf); have bC := gE hg (bP0 HB); have Q := gE hg (bP0 HB); replace HB := hS0 HB hb; clear hb bf hg) | ((with_reducible refine gate_dst (N := 2) rfl ?_); refine be_ (cs := #[.bool false, .slice none 0 0]) (t := 127) ?_; intro B hg w3 bf hb; replace ae := aM (Kd.V_below (Kd.V_elderB (vO ae.out) B (Nat.le_of_eq hg.symm)) hb); have D := aM (bf); have bD := gE hg (bP1 HB Q); have ac := gE hg (bP1 HB Q); replace HB := hS1 HB Q hb; have z := nL hg E; have I := nG hg E; replace E := kB E hb; clear hb bf hg; have b4 := z.out; have b5 := I.out; obtain ⟨bx, bz, bA, bB⟩ := bG2 E))
 go_loopg [3] k (fun kq v3 w' => ∃ (G : Int), v3 = .int .i64 G ∧ Aside0 (Fjc.l0 kq G ad C = some (r1, r2)) ∧ Aside0 (kq ≤ k) ∧ Aside0 (Kd.V (Kd.int .u64) 137 w' w.heap.size (fun k_ => (P0_1_ k_ ∨ w.heap.size ≤ k_) ∧ k_ ≠ O ∧ k_ ≠ B) (.slice J C.length L) C) ∧ Aside0 (w'.heap[O]? = some (.cells #[.bool ad, (.slice J C.length L)] 127 (0, 0))) ∧ Aside0 (w'.heap[B]? = some (.cells #[.bool false, (.slice none 0 0)] 127 (0, 0))) ∧ BA w w')
 case atStart => exact ⟨((C.length : Int)), sI, H', ⟨Nat.le_refl _⟩, ⟨by (with_reducible repeat (first | apply Kd.V_alloc | apply Kd.V_drewN | apply Kd.V_drew)); exact Kd.V_mono ae.out (fun _ hk => ⟨hk.1.1, ⟨hk.1.2, hk.2⟩⟩)⟩, kQ E, kQ D, bT2 HB Q ac⟩
 case round =>
  clear H'
  obtain ⟨G, rfl, HA, b6, A, E, D, HB⟩ := hrel; cases gk with
  | zero => exact absurd HA.out (by simp [Fjc.l0])
  | succ k1 =>
   have H := HA.out; clear HA; simp only [Fjc.l0] at H
   apply iB H <;> clear H <;> intro c6 H
   ·have bh := dT c6; clear c6; obtain ⟨W, af⟩ : ∃ j_ : Int, (wrap64 (G - 1)) = j_ := ⟨_, rfl⟩
    first | rw [af] at H | simp only [af] at H
    have hji7w : (IntKind.i64.wrap (G - 1)) = W := (i64_w _).trans af
    apply iN H; clear H; intro c8 H; have b7 := dT c8; clear c8
    apply iN H; clear H; intro c9 H; have b8 := dT c9; clear c9
    apply iB H <;> clear H <;> intro aq H
    ·obtain ⟨a8, a9⟩ := bq aq; clear aq; have H' := aM H; clear H; have bE := z.out; have bF := I.out; obtain ⟨bi, bj, bk, bm⟩ := bG2 E; have R : 0 ≤ ((W) : Int) := oT aO; have U : (W) < (C.length : Int) := oT aO; obtain ⟨M, ak, al⟩ := Kd.at_int (Kd.V_reads' A.out).2.2 (W) R U; cases ak; replace R := eq_true R; replace U := eq_true U
     go_wp2
     go_roundg k1
     case measure => have := b6.out; omega
     case rel => exact ⟨(W), (by first | rfl | (simp; done) | (simp only [← af] <;> (first | rfl | simp)) | (simp [*]; done)), H', ⟨by have := b6.out; omega⟩, ⟨vO A.out⟩, kQ E, kQ D, bT2 HB Q ac⟩
    ·obtain ⟨a8, a9⟩ := bn aq
     by_cases aJ : ad = true
     ·subst aJ
      rw [if_pos rfl] at H
      apply iN H; clear H; intro ar H; have bG := eq_true ar; have bH := dT ar; clear ar
      apply iN H; clear H; intro au H; have bI := eq_true au; have bJ := dT au; clear au; obtain ⟨Y, ag⟩ : ∃ y_ : List Int, y_ = (C.take (G : Int).toNat) := ⟨_, rfl⟩
      first | replace H := rI ag H | rw [← ag] at H
      have aK := aM ag; clear ag; obtain ⟨rfl, rfl⟩ := pE2 H; have bK := z.out; have bL := I.out; obtain ⟨bo, bp, br, bs⟩ := bG2 E; have R : 0 ≤ ((W) : Int) := oT aO; have U : (W) < (C.length : Int) := oT aO; obtain ⟨M, ak, al⟩ := Kd.at_int (Kd.V_reads' A.out).2.2 (W) R U; cases ak; replace R := eq_true R; replace U := eq_true U
      try go_wp2
      replace A := aM (Kd.V_drew A.out); replace E := kD E; replace D := kD D; replace HB := aM (below_drew1 HB.out); have a2 : (G : Int) ≤ ((C.length : Int) : Int) := oT aO; obtain ⟨i019, aL, _, hsz19, _⟩ := info_parts info137; have am : C.length ≤ L := (Kd.V_reads' A.out).2.1; have hC19 : Kd.F (Kd.int .u64) _ _ (some M) C.length C := (Kd.V_at (base := w.heap.size) A.out).2.2; have hcut19 := cut_to3 (P := Try.prog) 125 137 .i64 .i64 Try.underlying125 aL (some M) C.length L G (oT aO) a2 am; have aB := Kd.F_take (m := (G : Int).toNat) hC19 (by omega); have aC : Y.length = (G : Int).toNat := (by rw [aK.out, List.length_take]; omega); rw [← aK.out] at aB; rw [← aC] at hcut19; have aN := aM (show Kd.V (Kd.int .u64) 137 _ w.heap.size _ (.slice (some M) Y.length Y.length) Y from Kd.V_mk (by omega) aB); have bM := aM (show Y.length ≤ Y.length from by omega); clear aB hC19 am aL hsz19; have KY19 := aM aC; clear aC; replace a2 := eq_true a2; refine start_ (n := 13) (S := fun w' => w'.cell? ⟨O, 0, none⟩ = some (.bool true) ∧ w'.cell? ⟨O, 1, none⟩ = some (.slice (some M) C.length L)) (ds := []) (bl 13 0) (by kernel_rfl) rfl rfl (bD2 E) (fun a6 => ?_); refine with_tabW Fjc.tab4 Fjc.bits4 (fun aZ a7 => ?_); generalize wr.drew = bb at A E D HB aN a6 ⊢; refine pu_ 0 20 (bl 13 1) aZ ?_; refine pu_ 6 26 (bl 13 65) aZ ?_; refine pu_ 8 28 (bl 13 321) aZ ?_; refine pu_ 9 29 (bl 13 833) aZ ?_; refine tk2_ 1 21 (bl 13 835) aZ a7 a6 ?_; refine pu_ 2 22 (bl 13 839) aZ ?_; refine pu_ 3 23 (bl 13 847) aZ ?_; refine pu_ 4 24 (bl 13 863) aZ ?_; refine pu_ 5 25 (bl 13 895) aZ ?_; refine tk2_ 7 27 (bl 13 1023) aZ a7 a6 ?_; refine pu_ 10 30 (bl 13 2047) aZ ?_; refine pu_ 11 31 (bl 13 4095) aZ ?_; refine one_ (i := 12) (N := none) (bl 13 8191) rfl rfl (one_of aZ.out (by kernel_rfl)) (by decide) (fun K hK => ?_); have hs20 : bb.cell? ⟨B, 0, none⟩ = some (.bool false) := (blk_cell D.out 0).trans rfl; have hfs20 := blk_frozen D.out 0; have hns20_0 := z.out; have hms20_0 := I.out; have hs21 : bb.cell? ⟨B, 1, none⟩ = some (.slice none 0 0) := (blk_cell D.out 1).trans rfl; have hfs21 := blk_frozen D.out 1; have hns21_0 := z.out; have hms21_0 := I.out; refine skip_ (w1 := ?_) (by rfl) rfl ?_ ?_; rotate_left
      ·go_simp
       rfl
      refine hK.out _ _ ⟨((cell_far (p := ⟨B, _, none⟩) z.out _).trans (((cell_far (p := ⟨B, _, none⟩) z.out _).trans (a6.1)))), ((cell_far (p := ⟨B, _, none⟩) z.out _).trans (((cell_far (p := ⟨B, _, none⟩) z.out _).trans (a6.2))))⟩ (fun a6 => ?_); clear hK K; refine done_ (done_of aZ.out (by kernel_rfl)) ?_
      try go_wp2
      refine bodyPost_ret (results_cell_row rfl _ _ B 127 #[.bool true, .slice (some M) Y.length (Y.length)] (0, 0) _ rfl (by (with_reducible repeat (first | refine blk_drewN ?_ _ | refine blk_drew ?_ | refine blk_alloc ?_ _)); exact blk_put (blk_put D.out 0 _ rfl) 1 _ rfl) Try.underlying127 rfl (by kernel_rfl)) rfl ?_; exact ⟨_, by first | rfl | (simp [errW_none, errW_some] <;> rfl) | (simp only [← af]; first | rfl | (simp [errW_none, errW_some] <;> rfl)) | (simp [*, errW_none, errW_some] <;> rfl), by (with_reducible repeat (first | apply Kd.V_alloc | apply Kd.V_drewN | apply Kd.V_drew)); exact Kd.V_mono (Kd.V_far (p := ⟨B, 1, none⟩) (Kd.V_far (p := ⟨B, 0, none⟩) (Kd.V_mono aN.out (fun k_ hk => (⟨hk, hk.2.2⟩ : _ ∧ k_ ≠ B))) (fun _ hk => hk.2) (.bool true)) (fun _ hk => hk.2) (.slice (some M) Y.length (Y.length))) (fun _ hk => hk.1.1), bS2 HB.out Q.out ac.out⟩
     ·replace aJ := Bool.eq_false_iff.mpr aJ; subst aJ
      rw [if_neg nF] at H
      apply iN H; clear H; intro av H; have bN := eq_true av; have bO := dT av; clear av
      apply iN H; clear H; intro aw H; have bP := eq_true aw; have bQ := dT aw; clear aw; obtain ⟨Z, ah⟩ : ∃ y_ : List Int, y_ = (C.take (G : Int).toNat) := ⟨_, rfl⟩
      first | replace H := rI ah H | rw [← ah] at H
      have aP := aM ah; clear ah; obtain ⟨rfl, rfl⟩ := pE2 H; have bR := z.out; have bS := I.out; obtain ⟨bt, bu, bv, bw⟩ := bG2 E; have R : 0 ≤ ((W) : Int) := oT aO; have U : (W) < (C.length : Int) := oT aO; obtain ⟨M, ak, al⟩ := Kd.at_int (Kd.V_reads' A.out).2.2 (W) R U; cases ak; replace R := eq_true R; replace U := eq_true U
      try go_wp2
      replace A := aM (Kd.V_drew A.out); replace E := kD E; replace D := kD D; replace HB := aM (below_drew1 HB.out); have a3 : (G : Int) ≤ ((C.length : Int) : Int) := oT aO; obtain ⟨i027, aQ, _, hsz27, _⟩ := info_parts info137; have an : C.length ≤ L := (Kd.V_reads' A.out).2.1; have hC27 : Kd.F (Kd.int .u64) _ _ (some M) C.length C := (Kd.V_at (base := w.heap.size) A.out).2.2; have hcut27 := cut_to3 (P := Try.prog) 125 137 .i64 .i64 Try.underlying125 aQ (some M) C.length L G (oT aO) a3 an; have aD := Kd.F_take (m := (G : Int).toNat) hC27 (by omega); have aE : Z.length = (G : Int).toNat := (by rw [aP.out, List.length_take]; omega); rw [← aP.out] at aD; rw [← aE] at hcut27; have aR := aM (show Kd.V (Kd.int .u64) 137 _ w.heap.size _ (.slice (some M) Z.length Z.length) Z from Kd.V_mk (by omega) aD); have bT := aM (show Z.length ≤ Z.length from by omega); clear aD hC27 an aQ hsz27; have KY27 := aM aE; clear aE; replace a3 := eq_true a3; refine start_ (n := 13) (S := fun w' => w'.cell? ⟨O, 0, none⟩ = some (.bool false) ∧ w'.cell? ⟨O, 1, none⟩ = some (.slice (some M) C.length L)) (ds := []) (bl 13 0) (by kernel_rfl) rfl rfl (bD2 E) (fun a6 => ?_); refine with_tabW Fjc.tab4 Fjc.bits4 (fun aZ a7 => ?_); generalize wr.drew = bc at A E D HB aR a6 ⊢; refine pu_ 0 20 (bl 13 1) aZ ?_; refine pu_ 6 26 (bl 13 65) aZ ?_; refine pu_ 8 28 (bl 13 321) aZ ?_; refine pu_ 9 29 (bl 13 833) aZ ?_; refine tk2_ 1 21 (bl 13 835) aZ a7 a6 ?_; refine pu_ 2 22 (bl 13 839) aZ ?_; refine pn_ 3 23 (bl 13 847) aZ ?_; refine pn_ 4 24 (bl 13 863) aZ ?_; refine pu_ 5 25 (bl 13 895) aZ ?_; refine tk2_ 7 27 (bl 13 1023) aZ a7 a6 ?_; refine pu_ 10 30 (bl 13 2047) aZ ?_; refine pu_ 11 31 (bl 13 4095) aZ ?_; refine one_ (i := 12) (N := none) (bl 13 8191) rfl rfl (one_of aZ.out (by kernel_rfl)) (by decide) (fun K hK => ?_); have hs28 : bc.cell? ⟨B, 0, none⟩ = some (.bool false) := (blk_cell D.out 0).trans rfl; have hfs28 := blk_frozen D.out 0; have hns28_0 := z.out; have hms28_0 := I.out; have hs29 : bc.cell? ⟨B, 1, none⟩ = some (.slice none 0 0) := (blk_cell D.out 1).trans rfl; have hfs29 := blk_frozen D.out 1; have hns29_0 := z.out; have hms29_0 := I.out; refine skip_ (w1 := ?_) (by rfl) rfl ?_ ?_; rotate_left
      ·go_simp
       rfl
      refine hK.out _ _ ⟨((cell_far (p := ⟨B, _, none⟩) z.out _).trans (((cell_far (p := ⟨B, _, none⟩) z.out _).trans (a6.1)))), ((cell_far (p := ⟨B, _, none⟩) z.out _).trans (((cell_far (p := ⟨B, _, none⟩) z.out _).trans (a6.2))))⟩ (fun a6 => ?_); clear hK K; refine done_ (done_of aZ.out (by kernel_rfl)) ?_
      try go_wp2
      refine bodyPost_ret (results_cell_row rfl _ _ B 127 #[.bool false, .slice (some M) Z.length (Z.length)] (0, 0) _ rfl (by (with_reducible repeat (first | refine blk_drewN ?_ _ | refine blk_drew ?_ | refine blk_alloc ?_ _)); exact blk_put (blk_put D.out 0 _ rfl) 1 _ rfl) Try.underlying127 rfl (by kernel_rfl)) rfl ?_; exact ⟨_, by first | rfl | (simp [errW_none, errW_some] <;> rfl) | (simp only [← af]; first | rfl | (simp [errW_none, errW_some] <;> rfl)) | (simp [*, errW_none, errW_some] <;> rfl), by (with_reducible repeat (first | apply Kd.V_alloc | apply Kd.V_drewN | apply Kd.V_drew)); exact Kd.V_mono (Kd.V_far (p := ⟨B, 1, none⟩) (Kd.V_far (p := ⟨B, 0, none⟩) (Kd.V_mono aR.out (fun k_ hk => (⟨hk, hk.2.2⟩ : _ ∧ k_ ≠ B))) (fun _ hk => hk.2) (.bool false)) (fun _ hk => hk.2) (.slice (some M) Z.length (Z.length))) (fun _ hk => hk.1.1), bS2 HB.out Q.out ac.out⟩
   ·have bh := decide_eq_false c6; clear c6
    by_cases aS : ad = true
    ·subst aS
     rw [if_pos rfl] at H
     apply iN H; clear H; intro ax H; have bU := eq_true ax; have bV := dT ax; clear ax
     apply iN H; clear H; intro ay H; have bW := eq_true ay; have bX := dT ay; clear ay; obtain ⟨aa, ai⟩ : ∃ y_ : List Int, y_ = (C.take (G : Int).toNat) := ⟨_, rfl⟩
     first | replace H := rI ai H | rw [← ai] at H
     have aT := aM ai; clear ai; obtain ⟨rfl, rfl⟩ := pE2 H
     try go_wp2
     replace A := aM (Kd.V_drew A.out); replace E := kD E; replace D := kD D; replace HB := aM (below_drew1 HB.out); have a4 : (G : Int) ≤ ((C.length : Int) : Int) := oT aO; obtain ⟨i034, aU, _, hsz34, _⟩ := info_parts info137; have ao : C.length ≤ L := (Kd.V_reads' A.out).2.1; have hC34 : Kd.F (Kd.int .u64) _ _ J C.length C := (Kd.V_at (base := w.heap.size) A.out).2.2; have hcut34 := cut_to3 (P := Try.prog) 125 137 .i64 .i64 Try.underlying125 aU J C.length L G (oT aO) a4 ao; have aF := Kd.F_take (m := (G : Int).toNat) hC34 (by omega); have aG : aa.length = (G : Int).toNat := (by rw [aT.out, List.length_take]; omega); rw [← aT.out] at aF; rw [← aG] at hcut34; have aV := aM (show Kd.V (Kd.int .u64) 137 _ w.heap.size _ (.slice J aa.length aa.length) aa from Kd.V_mk (by omega) aF); have bY := aM (show aa.length ≤ aa.length from by omega); clear aF hC34 ao aU hsz34; have KY34 := aM aG; clear aG; replace a4 := eq_true a4; refine start_ (n := 13) (S := fun w' => w'.cell? ⟨O, 0, none⟩ = some (.bool true) ∧ w'.cell? ⟨O, 1, none⟩ = some (.slice J C.length L)) (ds := []) (bl 13 0) (by kernel_rfl) rfl rfl (bD2 E) (fun a6 => ?_); refine with_tabW Fjc.tab4 Fjc.bits4 (fun aZ a7 => ?_); generalize wr.drew = bd at A E D HB aV a6 ⊢; refine pu_ 0 20 (bl 13 1) aZ ?_; refine pu_ 6 26 (bl 13 65) aZ ?_; refine pu_ 8 28 (bl 13 321) aZ ?_; refine pu_ 9 29 (bl 13 833) aZ ?_; refine tk2_ 1 21 (bl 13 835) aZ a7 a6 ?_; refine pu_ 2 22 (bl 13 839) aZ ?_; refine pu_ 3 23 (bl 13 847) aZ ?_; refine pu_ 4 24 (bl 13 863) aZ ?_; refine pu_ 5 25 (bl 13 895) aZ ?_; refine tk2_ 7 27 (bl 13 1023) aZ a7 a6 ?_; refine pu_ 10 30 (bl 13 2047) aZ ?_; refine pu_ 11 31 (bl 13 4095) aZ ?_; refine one_ (i := 12) (N := none) (bl 13 8191) rfl rfl (one_of aZ.out (by kernel_rfl)) (by decide) (fun K hK => ?_); have hs35 : bd.cell? ⟨B, 0, none⟩ = some (.bool false) := (blk_cell D.out 0).trans rfl; have hfs35 := blk_frozen D.out 0; have hns35_0 := z.out; have hms35_0 := I.out; have hs36 : bd.cell? ⟨B, 1, none⟩ = some (.slice none 0 0) := (blk_cell D.out 1).trans rfl; have hfs36 := blk_frozen D.out 1; have hns36_0 := z.out; have hms36_0 := I.out; refine skip_ (w1 := ?_) (by rfl) rfl ?_ ?_; rotate_left
     ·go_simp
      rfl
     refine hK.out _ _ ⟨((cell_far (p := ⟨B, _, none⟩) z.out _).trans (((cell_far (p := ⟨B, _, none⟩) z.out _).trans (a6.1)))), ((cell_far (p := ⟨B, _, none⟩) z.out _).trans (((cell_far (p := ⟨B, _, none⟩) z.out _).trans (a6.2))))⟩ (fun a6 => ?_); clear hK K; refine done_ (done_of aZ.out (by kernel_rfl)) ?_
     try go_wp2
     refine bodyPost_ret (results_cell_row rfl _ _ B 127 #[.bool false, .slice J aa.length (aa.length)] (0, 0) _ rfl (by (with_reducible repeat (first | refine blk_drewN ?_ _ | refine blk_drew ?_ | refine blk_alloc ?_ _)); exact blk_put (blk_put D.out 0 _ rfl) 1 _ rfl) Try.underlying127 rfl (by kernel_rfl)) rfl ?_; exact ⟨_, eW, by (with_reducible repeat (first | apply Kd.V_alloc | apply Kd.V_drewN | apply Kd.V_drew)); exact Kd.V_mono (Kd.V_far (p := ⟨B, 1, none⟩) (Kd.V_far (p := ⟨B, 0, none⟩) (Kd.V_mono aV.out (fun k_ hk => (⟨hk, hk.2.2⟩ : _ ∧ k_ ≠ B))) (fun _ hk => hk.2) (.bool false)) (fun _ hk => hk.2) (.slice J aa.length (aa.length))) (fun _ hk => hk.1.1), bS2 HB.out Q.out ac.out⟩
    ·replace aS := Bool.eq_false_iff.mpr aS; subst aS
     rw [if_neg nF] at H
     apply iN H; clear H; intro az H; have bZ := eq_true az; have b0 := dT az; clear az
     apply iN H; clear H; intro aA H; have b1 := eq_true aA; have b2 := dT aA; clear aA; obtain ⟨ab, aj⟩ : ∃ y_ : List Int, y_ = (C.take (G : Int).toNat) := ⟨_, rfl⟩
     first | replace H := rI aj H | rw [← aj] at H
     have aW := aM aj; clear aj; obtain ⟨rfl, rfl⟩ := pE2 H
     try go_wp2
     replace A := aM (Kd.V_drew A.out); replace E := kD E; replace D := kD D; replace HB := aM (below_drew1 HB.out); have a5 : (G : Int) ≤ ((C.length : Int) : Int) := oT aO; obtain ⟨i040, aX, _, hsz40, _⟩ := info_parts info137; have ap : C.length ≤ L := (Kd.V_reads' A.out).2.1; have hC40 : Kd.F (Kd.int .u64) _ _ J C.length C := (Kd.V_at (base := w.heap.size) A.out).2.2; have hcut40 := cut_to3 (P := Try.prog) 125 137 .i64 .i64 Try.underlying125 aX J C.length L G (oT aO) a5 ap; have aH := Kd.F_take (m := (G : Int).toNat) hC40 (by omega); have aI : ab.length = (G : Int).toNat := (by rw [aW.out, List.length_take]; omega); rw [← aW.out] at aH; rw [← aI] at hcut40; have aY := aM (show Kd.V (Kd.int .u64) 137 _ w.heap.size _ (.slice J ab.length ab.length) ab from Kd.V_mk (by omega) aH); have b3 := aM (show ab.length ≤ ab.length from by omega); clear aH hC40 ap aX hsz40; have KY40 := aM aI; clear aI; replace a5 := eq_true a5; refine start_ (n := 13) (S := fun w' => w'.cell? ⟨O, 0, none⟩ = some (.bool false) ∧ w'.cell? ⟨O, 1, none⟩ = some (.slice J C.length L)) (ds := []) (bl 13 0) (by kernel_rfl) rfl rfl (bD2 E) (fun a6 => ?_); refine with_tabW Fjc.tab4 Fjc.bits4 (fun aZ a7 => ?_); generalize wr.drew = be at A E D HB aY a6 ⊢; refine pu_ 0 20 (bl 13 1) aZ ?_; refine pu_ 6 26 (bl 13 65) aZ ?_; refine pu_ 8 28 (bl 13 321) aZ ?_; refine pu_ 9 29 (bl 13 833) aZ ?_; refine tk2_ 1 21 (bl 13 835) aZ a7 a6 ?_; refine pu_ 2 22 (bl 13 839) aZ ?_; refine pn_ 3 23 (bl 13 847) aZ ?_; refine pn_ 4 24 (bl 13 863) aZ ?_; refine pu_ 5 25 (bl 13 895) aZ ?_; refine tk2_ 7 27 (bl 13 1023) aZ a7 a6 ?_; refine pu_ 10 30 (bl 13 2047) aZ ?_; refine pu_ 11 31 (bl 13 4095) aZ ?_; refine one_ (i := 12) (N := none) (bl 13 8191) rfl rfl (one_of aZ.out (by kernel_rfl)) (by decide) (fun K hK => ?_); have hs41 : be.cell? ⟨B, 0, none⟩ = some (.bool false) := (blk_cell D.out 0).trans rfl; have hfs41 := blk_frozen D.out 0; have hns41_0 := z.out; have hms41_0 := I.out; have hs42 : be.cell? ⟨B, 1, none⟩ = some (.slice none 0 0) := (blk_cell D.out 1).trans rfl; have hfs42 := blk_frozen D.out 1; have hns42_0 := z.out; have hms42_0 := I.out; refine skip_ (w1 := ?_) (by rfl) rfl ?_ ?_; rotate_left
     ·go_simp
      rfl
     refine hK.out _ _ ⟨((cell_far (p := ⟨B, _, none⟩) z.out _).trans (((cell_far (p := ⟨B, _, none⟩) z.out _).trans (a6.1)))), ((cell_far (p := ⟨B, _, none⟩) z.out _).trans (((cell_far (p := ⟨B, _, none⟩) z.out _).trans (a6.2))))⟩ (fun a6 => ?_); clear hK K; refine done_ (done_of aZ.out (by kernel_rfl)) ?_
     try go_wp2
     refine bodyPost_ret (results_cell_row rfl _ _ B 127 #[.bool false, .slice J ab.length (ab.length)] (0, 0) _ rfl (by (with_reducible repeat (first | refine blk_drewN ?_ _ | refine blk_drew ?_ | refine blk_alloc ?_ _)); exact blk_put (blk_put D.out 0 _ rfl) 1 _ rfl) Try.underlying127 rfl (by kernel_rfl)) rfl ?_; exact ⟨_, eW, by (with_reducible repeat (first | apply Kd.V_alloc | apply Kd.V_drewN | apply Kd.V_drew)); exact Kd.V_mono (Kd.V_far (p := ⟨B, 1, none⟩) (Kd.V_far (p := ⟨B, 0, none⟩) (Kd.V_mono aY.out (fun k_ hk => (⟨hk, hk.2.2⟩ : _ ∧ k_ ≠ B))) (fun _ hk => hk.2) (.bool false)) (fun _ hk => hk.2) (.slice J ab.length (ab.length))) (fun _ hk => hk.1.1), bS2 HB.out Q.out ac.out⟩
def Fjb.f (a0_0 : Bool) (l0_1 : List Int) (a1 : Int) : Option (Int) := if a1 < (l0_1.length : Int) then (if 0 ≤ a1 then (some (rd l0_1 a1)) else (none)) else (some 0)
theorem Fjb.calls (B : Bool) (D : Option Addr) (E : Nat) (z : List Int) (I : Int) (r : Int) (w : World) (M : Kd.C (Kd.int .u64) w D z.length z) (O : z.length ≤ E) (h : Fjb.f B z I = some r) :
  Calls Try.prog 111 #[.agg #[.bool B, .slice D z.length E], .int .i64 I] w fun e w' => e = .returned (.int .u64 r) ∧ Below w.heap.size w w' := by
 have hu127 := Try.underlying127; have Q := aM M; have ah := aM O; clear M O; have HB := aM (Below.refl w.heap.size w); rw [Fjb.f] at h; have H := h; clear h
 apply iB H <;> clear H <;> intro P H
 ·have W := dT P; clear P
  apply iN H; clear H; intro R H; have aj := dT R; clear R; obtain rfl := Option.some.inj H
  go_enter Try.func111, Try.ntmps111
  go_wp2_with (first | ((with_reducible refine gate_dst (N := 2) rfl ?_); refine be_ (cs := #[.bool B, .slice D z.length E]) (t := 127) ?_; intro U hg w5 ak hb; have F := aM (ak); have V := gE hg (bP0 HB); have G := gE hg (bP0 HB); replace HB := hS0 HB hb; clear hb ak hg; obtain ⟨Z, aa, ab, ac⟩ := bG2 F; obtain ⟨⟨ai, Y, A⟩, J, L⟩ := xAt (Kd.at_int Q.out) I; cases Y; replace A := cX HB A; ))
  go_ret
  exact ⟨eW, bS1 HB.out G.out⟩
 ·have W := decide_eq_false P; clear P; obtain rfl := Option.some.inj H
  go_enter Try.func111, Try.ntmps111
  go_wp2_with (first | ((with_reducible refine gate_dst (N := 2) rfl ?_); refine be_ (cs := #[.bool B, .slice D z.length E]) (t := 127) ?_; intro U hg w7 ak hb; have F := aM (ak); have V := gE hg (bP0 HB); have G := gE hg (bP0 HB); replace HB := hS0 HB hb; clear hb ak hg; obtain ⟨ad, ae, af, ag⟩ := bG2 F))
  go_ret
  exact ⟨eW, bS1 HB.out G.out⟩
mutual
def Fka.l0 : Nat → List Int → Int → Int → Bool → List Int → Bool → List Int → Option (List Int)
 | 0, _, _, _, _, _, _, _ => none
 | k + 1, x5, x6, x7, x452000, x452001, x453000, x453001 => if x7 < (mx (x452001.length : Int) (x453001.length : Int)) then (Fka.j1 k x5 x6 x7 true x452000 x452001 x453000 x453001) else (Fka.j1 k x5 x6 x7 (decide (x6 > 0)) x452000 x452001 x453000 x453001)
def Fka.j1 : Nat → List Int → Int → Int → Bool → Bool → List Int → Bool → List Int → Option (List Int)
 | 0, _, _, _, _, _, _, _, _ => none
 | k + 1, x5, x6, x7, x21, x452000, x452001, x453000, x453001 => if x21 = true then ((Fjb.f x452000 x452001 x7).bind fun t453 => ((Fjb.f x453000 x453001 x7).bind fun t454 => (if x5.length < 17592186044416 then (Fka.l0 k (x5 ++ [Go.bits .and .u64 (IntKind.u64.wrap ((IntKind.u64.wrap (t453 + t454)) + x6)) 65535]) ((IntKind.u64.wrap ((IntKind.u64.wrap (t453 + t454)) + x6)) / 65536) (wrap64 (x7 + 1)) x452000 x452001 x453000 x453001) else (none)))) else (some x5)
end
def Fka.f (k : Nat) (a0_0 : Bool) (l0_1 : List Int) (a1_0 : Bool) (l1_1 : List Int) : Option (List Int) := Fka.l0 k ([] : List Int) 0 0 a0_0 l0_1 a1_0 l1_1
theorem Fka.mono_l : ∀ k, (∀ y0 y1 y2 y3 y4 y5 y6, LeO (Fka.l0 k y0 y1 y2 y3 y4 y5 y6) (Fka.l0 (k + 1) y0 y1 y2 y3 y4 y5 y6)) ∧ (∀ y0 y1 y2 y3 y4 y5 y6 y7, LeO (Fka.j1 k y0 y1 y2 y3 y4 y5 y6 y7) (Fka.j1 (k + 1) y0 y1 y2 y3 y4 y5 y6 y7))
 | 0 => ⟨fun _ _ _ _ _ _ _ r h => by simp [Fka.l0] at h, fun _ _ _ _ _ _ _ _ r h => by simp [Fka.j1] at h⟩
 | k + 1 => by
  obtain ⟨ih0, ih1⟩ := Fka.mono_l k; refine ⟨?_, ?_⟩
  ·intro y0 y1 y2 y3 y4 y5 y6
   unfold Fka.l0
   repeat' first | (with_reducible first | exact ih0 _ _ _ _ _ _ _ | exact ih1 _ _ _ _ _ _ _ _ | exact lA | apply lI | refine lB ?_ fun _ => ?_) | exact lN _ | apply lI | refine lB ?_ fun _ => ?_
  ·intro y0 y1 y2 y3 y4 y5 y6 y7
   unfold Fka.j1
   repeat' first | (with_reducible first | exact ih0 _ _ _ _ _ _ _ | exact ih1 _ _ _ _ _ _ _ _ | exact lA | apply lI | refine lB ?_ fun _ => ?_) | exact lN _ | apply lI | refine lB ?_ fun _ => ?_
theorem Fka.mono : ∀ a0 a1 a2 a3 k, LeO (Fka.f k a0 a1 a2 a3) (Fka.f (k + 1) a0 a1 a2 a3) := by
 intro a0 a1 a2 a3 k; obtain ⟨ih0, ih1⟩ := Fka.mono_l k
 unfold Fka.f
 repeat' first | (with_reducible first | exact ih0 _ _ _ _ _ _ _ | exact ih1 _ _ _ _ _ _ _ _ | exact lA | apply lI | refine lB ?_ fun _ => ?_) | exact lN _ | apply lI | refine lB ?_ fun _ => ?_
def Fka.T6 : Bool × List (List Nat × List Nat) := (true, [([], []), ([], []), ([0, 1], [0, 1]), ([], []), ([], []), ([3, 4, 2], [3, 4]), ([2, 5], [2, 5]), ([], []), ([6, 7], [6, 7]), ([8, 5, 0, 1, 2, 3, 4, 5, 6, 7, 8], [8])])
def Fka.B6 : List Nat := [0, 0, 3, 0, 0, 31, 63, 0, 255, 511]
theorem Fka.tab6 : rtab .any (opsOf Try.f104 6) = Fka.T6 := by kernel_rfl
theorem Fka.bits6 : waitsOk Fka.T6.2 Fka.B6 = true := by kernel_rfl
theorem Fka.calls (k : Nat) (I : Bool) (P : Option Addr) (Q : Nat) (B : List Int) (J : Bool) (U : Option Addr) (V : Nat) (D : List Int) (r : List Int) (w : World) (ah : Kd.C (Kd.int .u64) w P B.length B) (ai : B.length ≤ Q) (aj : Kd.C (Kd.int .u64) w U D.length D) (ak : D.length ≤ V) (h : Fka.f k I B J D = some r) :
  Calls Try.prog 104 #[.agg #[.bool I, .slice P B.length Q], .agg #[.bool J, .slice U D.length V]] w fun e w' => ∃ aD : Value, e = .returned (aD) ∧ Kd.R (Kd.int .u64) 137 w' w.heap.size (fun _ => True) aD r ∧ Below w.heap.size w w' := by
 have hu127 := Try.underlying127; have au := aM ah; have av := aM ai; clear ah ai; have aw := aM aj; have ax := aM ak; clear aj ak; have HB := aM (Below.refl w.heap.size w); rw [Fka.f] at h; have H := h; clear h; have H' := aM H; clear H
 go_enter Try.func104, Try.ntmps104
 go_wp2_with (first | ((with_reducible refine gate_dst (N := 2) rfl ?_); refine be_ (cs := #[.bool I, .slice P B.length Q]) (t := 127) ?_; intro Z hg w3 bf hb; have z := aM (bf); have ba := gE hg (bP0 HB); have E := gE hg (bP0 HB); replace HB := hS0 HB hb; clear hb bf hg) | ((with_reducible refine gate_dst (N := 3) rfl ?_); refine be_ (cs := #[.bool J, .slice U D.length V]) (t := 127) ?_; intro aa hg w4 bf hb; have A := aM (bf); have bb := gE hg (bP1 HB E); have G := gE hg (bP1 HB E); replace HB := hS1 HB E hb; have W := nL hg z; have Y := nG hg z; replace z := kB z hb; clear hb bf hg))
 go_loopg [5, 6, 7] k (fun kq v5 v6 v7 w' => ∃ (O : List Int) (M : Int) (L : Int), v6 = .int .u64 M ∧ v7 = .int .i64 L ∧ Aside0 (Fka.l0 kq O M L I B J D = some r) ∧ Aside0 (kq ≤ k) ∧ RA (Kd.int .u64) 137 w' w v5 O ∧ Aside0 (w'.heap[Z]? = some (.cells #[.bool I, (.slice P B.length Q)] 127 (0, 0))) ∧ Aside0 (w'.heap[aa]? = some (.cells #[.bool J, (.slice U D.length V)] 127 (0, 0))) ∧ BA w w')
 case atStart => exact ⟨(([] : List Int)), (0), (0), sI, sI, H', ⟨Nat.le_refl _⟩, ⟨by first | exact Kd.R_nil _ _ _ _ _ | exact Kd.N_nil _ _ _ _ _ | exact Kd.V_nil _ _ _ _ _ | exact Kd.Q_nil _ _ _ _ _ | exact Kd.S_nil _ _ _ _ _⟩, kQ z, kQ A, bT2 HB E G⟩
 case round =>
  clear H'
  obtain ⟨O, M, L, rfl, rfl, HA, bq, F, z, A, HB⟩ := hrel; cases gk with
  | zero => exact absurd HA.out (by simp [Fka.l0])
  | succ k1 =>
   have H := HA.out; clear HA; simp only [Fka.l0] at H; have ao := aM H; clear H
   go_upto_region 4 with (fail)
   go_cut [21] (fun aX wc => ∃ (kq : Nat) (ab : Bool), aX = .bool ab ∧ Aside0 (Fka.j1 kq O M L ab I B J D = some r) ∧ Aside0 (kq ≤ k1) ∧ RA (Kd.int .u64) 137 wc w u5 O ∧ Aside0 (wc.heap[Z]? = some (.cells #[.bool I, (.slice P B.length Q)] 127 (0, 0))) ∧ Aside0 (wc.heap[aa]? = some (.cells #[.bool J, (.slice U D.length V)] 127 (0, 0))) ∧ BA w wc)
   case first =>
    have H := ao.out; clear ao; obtain ⟨ap, ag⟩ : ∃ j_ : Int, (mx (B.length : Int) (D.length : Int)) = j_ := ⟨_, rfl⟩
    first | rw [ag] at H | simp only [ag] at H
    have ay : (if (B.length : Int) < (D.length : Int) then (D.length : Int) else (B.length : Int)) = ap := ag
    (try (have hji6_n : (if B.length < D.length then (D.length : Int) else (B.length : Int)) = ap := by rw [← ay]; simp only [Int.ofNat_lt]))
    apply iB H <;> clear H <;> intro c7 H
    ·have ad := dT c7; clear c7
     (first | rw [ad] | (simp only [i64_w, i32_w]; rw [ad]) | skip)
     have H' := aM H; clear H; have bi := W.out; have bj := Y.out; obtain ⟨aY, aZ, a4, a5⟩ := bG2 z; obtain ⟨aG, aH, aI, aJ⟩ := bG2 A
     go_wp2
     go_meet
     case rel => exact ⟨_, (true), sI, H', ⟨by have := bq.out; first | omega | exact Nat.le_refl _⟩, rQ F, kQ z, kQ A, bT2 HB E G⟩
    ·have ad := decide_eq_false c7; clear c7
     (first | rw [ad] | (simp only [i64_w, i32_w]; rw [ad]) | skip)
     have H' := aM H; clear H; have bc := W.out; have bd := Y.out; obtain ⟨aK, aN, aQ, aR⟩ := bG2 z; obtain ⟨aT, aU, aV, aW⟩ := bG2 A
     go_wp2
     go_meet
     case rel => exact ⟨_, (decide (M > 0)), sI, H', ⟨by have := bq.out; first | omega | exact Nat.le_refl _⟩, rQ F, kQ z, kQ A, bT2 HB E G⟩
   case rest =>
    clear ao
    obtain ⟨kq, ab, rfl, HA, HJ4, F, z, A, HB⟩ := hcut; cases kq with
    | zero => exact absurd HA.out (by simp [Fka.j1])
    | succ a6 =>
     have H := HA.out; clear HA; simp only [Fka.j1] at H
     by_cases al : ab = true
     ·subst al
      rw [if_pos rfl] at H; apply bSx H; clear H; intro ae a7 H; apply bSx H; clear H; intro af a8 H
      apply iN H; clear H; intro am H; have az := aM am; clear am; obtain ⟨aE, ac⟩ : ∃ y_ : List Int, y_ = (O ++ [Go.bits .and .u64 (IntKind.u64.wrap ((IntKind.u64.wrap (ae + af)) + M)) 65535]) := ⟨_, rfl⟩
      first | replace H := rI ac H | rw [← ac] at H
      have aA := aM ac; clear ac; have H' := aM H; clear H
      try go_wp2
      replace F := aM (Kd.R_drew F.out); replace z := kD z; replace A := kD A; replace HB := aM (below_drew1 HB.out); refine start_ (n := 10) (S := fun w' => w'.cell? ⟨Z, 0, none⟩ = some (.bool I) ∧ w'.cell? ⟨Z, 1, none⟩ = some (.slice P B.length Q) ∧ w'.cell? ⟨aa, 0, none⟩ = some (.bool J) ∧ w'.cell? ⟨aa, 1, none⟩ = some (.slice U D.length V)) (ds := []) (bl 10 0) (by kernel_rfl) rfl rfl ⟨(blk_cell z.out 0).trans rfl, (blk_cell z.out 1).trans rfl, (blk_cell A.out 0).trans rfl, (blk_cell A.out 1).trans rfl⟩ (fun be => ?_); refine with_tabW Fka.tab6 Fka.bits6 (fun an br => ?_); generalize wc.drew = bm at F z A HB be ⊢; refine pu_ 1 25 (bl 10 2) an ?_; refine pu_ 4 28 (bl 10 18) an ?_; refine pu_ 7 31 (bl 10 146) an ?_; refine tk4_ 0 24 (bl 10 147) an br be ?_; refine tk4_ 3 27 (bl 10 155) an br be ?_; refine one_ (i := 2) (N := some 26) (bl 10 159) rfl rfl (one_of an.out (by kernel_rfl)) (by decide) (fun K hK => ?_); refine gS_ Try.func111 #[.agg #[.bool I, .slice P B.length Q], .int .i64 L] ?_
      with_reducible refine (Fjb.calls I _ _ B L ae _ ?s1 ?s2 a7.out).mono ?_
      (case s1 => exact cB au HB)
      (case s2 => exact av.out)
      rintro e bn ⟨rfl, hb⟩; refine ⟨_, rfl, ?_⟩; replace F := rB F hb; replace z := kB z hb; replace A := kB A hb; replace HB := hS2 HB E G hb
      refine hK.out _ _ ⟨(blk_cell z.out 0).trans rfl, (blk_cell z.out 1).trans rfl, (blk_cell A.out 0).trans rfl, (blk_cell A.out 1).trans rfl⟩ (fun be => ?_); clear hK K; refine nm_ 26 ?_; refine one_ (i := 5) (N := some 29) (bl 10 191) rfl rfl (one_of an.out (by kernel_rfl)) (by decide) (fun K hK => ?_); refine gS_ Try.func111 #[.agg #[.bool J, .slice U D.length V], .int .i64 L] ?_
      with_reducible refine (Fjb.calls J _ _ D L af _ ?s1 ?s2 a8.out).mono ?_
      (case s1 => exact cB aw HB)
      (case s2 => exact ax.out)
      rintro e bo ⟨rfl, hb⟩; refine ⟨_, rfl, ?_⟩; replace F := rB F hb; replace z := kB z hb; replace A := kB A hb; replace HB := hS2 HB E G hb
      refine hK.out _ _ ⟨(blk_cell z.out 0).trans rfl, (blk_cell z.out 1).trans rfl, (blk_cell A.out 0).trans rfl, (blk_cell A.out 1).trans rfl⟩ (fun be => ?_); clear hK K; refine nm_ 29 ?_; refine pu_ 6 30 (bl 10 255) an ?_; refine pu_ 8 32 (bl 10 511) an ?_; refine pu_ 9 8 (bl 10 1023) an ?_; refine done_ (done_of an.out (by kernel_rfl)) ?_
      try go_wp2_with (first | ((with_reducible refine gate_builtin (b := .append) (xs := #[.tmp 33, .tmp 36]) rfl ?_); at_builtin; refine Kd.R_append (Kd.int .u64) (w0 := w) w.heap.size rfl (.tmp 33) (.tmp 36) 125 137 (.int .u64 0) 8 rfl Try.underlying125 info137 rfl (by decide) (by omega) u5 O (Go.bits .and .u64 (IntKind.u64.wrap ((IntKind.u64.wrap (ae + af)) + M)) 65535) [.int .u64 (Go.bits .and .u64 (IntKind.u64.wrap ((IntKind.u64.wrap (ae + af)) + M)) 65535)] (fun _ => True) (fun _ => False) rfl rfl ?aP (fun _ hk => hk.elim) ?aF ?aO ?aB ?aS ?aL ?_; (case aP => exact rfl); (case aB => exact (bP2 HB E G)); (case aF => exact (fun _ _ => trivial)); (case aO => exact (rP F)); (case aS => exact (below_size (bP2 HB E G))); (case aL => have := az.out; omega); intro bk bp ho hb hg hat; rw [← aA.out] at ho; replace z := kG z hg F; replace A := kG A hg F; replace HB := aM (hb); have aC := aM (ho); clear F; clear ho hb hg hat))
      go_roundg a6
      case measure => have := bq.out; have := HJ4.out; omega
      case rel => exact ⟨(aE), ((IntKind.u64.wrap ((IntKind.u64.wrap (ae + af)) + M)) / 65536), (wrap64 (L + 1)), sI, sI, H', ⟨by have := bq.out; have := HJ4.out; omega⟩, rQ aC, kQ z, kQ A, bT2 HB E G⟩
     ·replace al := Bool.eq_false_iff.mpr al; subst al
      rw [if_neg nF] at H; obtain rfl := Option.some.inj H
      go_wp2
      go_ret
      exact ⟨_, eW, rO F.out, bS2 HB.out E.out G.out⟩
end Go.Proofs.Ytninoenmhcbonaa.X
