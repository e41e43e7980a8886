/- Functions of the seat, printed, and that the program's calls come to them; no condition. -/
import Derived.Test.YthgoonohpfoagaaX0
namespace Go.Proofs.Ythgoonohpfoagaa.X
open Go.RowKit Go.Proofs.YthgoonohpfoagaaW.PrintWords Go.Proofs.YthgoonohpfoagaaW.PrintLast Go.Proofs.YthgoonohpfoagaaW.PrintMore
attribute [local go_sem] max2_int min2_int max_two min_two max_three min_three max_four min_four
set_option linter.unusedVariables false
set_option linter.unusedSimpArgs false

mutual
def Ffc.j0 : Nat → Bool → Int → List ByteArray → List Int → Int → Int → Int → List ByteArray → List Int → Int → Int → Option (Bool)
 | 0, _, _, _, _, _, _, _, _, _, _, _ => none
 | k + 1, x43, x365000, x365001, x365002, x365003, x365004, x366000, x366001, x366002, x366003, x366004 => if x43 = true then (none) else (Ffc.l0 k (x365001.length : Int) 0 x365000 x365001 x365002 x365003 x365004 x366000 x366001 x366002 x366003 x366004)
def Ffc.l0 : Nat → Int → Int → Int → List ByteArray → List Int → Int → Int → Int → List ByteArray → List Int → Int → Int → Option (Bool)
 | 0, _, _, _, _, _, _, _, _, _, _, _, _ => none
 | k + 1, x46, x47, x365000, x365001, x365002, x365003, x365004, x366000, x366001, x366002, x366003, x366004 => if x47 < x46 then (if 0 ≤ x47 then (if x47 < (x365001.length : Int) then (if x47 < (x366001.length : Int) then (if (rdOf ByteArray.empty x365001 x47).toList = (rdOf ByteArray.empty x366001 x47).toList then (Ffc.l0 k x46 (wrap64 (x47 + 1)) x365000 x365001 x365002 x365003 x365004 x366000 x366001 x366002 x366003 x366004) else (none)) else (none)) else (none)) else (none)) else (Ffc.l1 k (x365002.length : Int) 0 x365000 x365001 x365002 x365003 x365004 x366000 x366001 x366002 x366003 x366004)
def Ffc.l1 : Nat → Int → Int → Int → List ByteArray → List Int → Int → Int → Int → List ByteArray → List Int → Int → Int → Option (Bool)
 | 0, _, _, _, _, _, _, _, _, _, _, _, _ => none
 | k + 1, x64, x65, x365000, x365001, x365002, x365003, x365004, x366000, x366001, x366002, x366003, x366004 => if x65 < x64 then (if 0 ≤ x65 then (if x65 < (x365002.length : Int) then (if x65 < (x366002.length : Int) then (if (rd x365002 x65) = (rd x366002 x65) then (Ffc.l1 k x64 (wrap64 (x65 + 1)) x365000 x365001 x365002 x365003 x365004 x366000 x366001 x366002 x366003 x366004) else (none)) else (none)) else (none)) else (none)) else (some true)
end
def Ffc.f (k : Nat) (a0_0 : Int) (l0_1 : List ByteArray) (l0_2 : List Int) (a0_3 : Int) (a0_4 : Int) (a1_0 : Int) (l1_1 : List ByteArray) (l1_2 : List Int) (a1_3 : Int) (a1_4 : Int) : Option (Bool) := if a0_0 = a1_0 then (if a0_3 = a1_3 then (if a0_4 = a1_4 then (if (l0_1.length : Int) = (l1_1.length : Int) then (Ffc.j0 k ((l0_2.length : Int) != (l1_2.length : Int)) a0_0 l0_1 l0_2 a0_3 a0_4 a1_0 l1_1 l1_2 a1_3 a1_4) else (Ffc.j0 k true a0_0 l0_1 l0_2 a0_3 a0_4 a1_0 l1_1 l1_2 a1_3 a1_4)) else (Ffc.j0 k true a0_0 l0_1 l0_2 a0_3 a0_4 a1_0 l1_1 l1_2 a1_3 a1_4)) else (Ffc.j0 k true a0_0 l0_1 l0_2 a0_3 a0_4 a1_0 l1_1 l1_2 a1_3 a1_4)) else (Ffc.j0 k true a0_0 l0_1 l0_2 a0_3 a0_4 a1_0 l1_1 l1_2 a1_3 a1_4)
theorem Ffc.mono_l : ∀ k, (∀ y0 y1 y2 y3 y4 y5 y6 y7 y8 y9 y10, LeO (Ffc.j0 k y0 y1 y2 y3 y4 y5 y6 y7 y8 y9 y10) (Ffc.j0 (k + 1) y0 y1 y2 y3 y4 y5 y6 y7 y8 y9 y10)) ∧ (∀ y0 y1 y2 y3 y4 y5 y6 y7 y8 y9 y10 y11, LeO (Ffc.l0 k y0 y1 y2 y3 y4 y5 y6 y7 y8 y9 y10 y11) (Ffc.l0 (k + 1) y0 y1 y2 y3 y4 y5 y6 y7 y8 y9 y10 y11)) ∧ (∀ y0 y1 y2 y3 y4 y5 y6 y7 y8 y9 y10 y11, LeO (Ffc.l1 k y0 y1 y2 y3 y4 y5 y6 y7 y8 y9 y10 y11) (Ffc.l1 (k + 1) y0 y1 y2 y3 y4 y5 y6 y7 y8 y9 y10 y11))
 | 0 => ⟨fun _ _ _ _ _ _ _ _ _ _ _ r h => by simp [Ffc.j0] at h, fun _ _ _ _ _ _ _ _ _ _ _ _ r h => by simp [Ffc.l0] at h, fun _ _ _ _ _ _ _ _ _ _ _ _ r h => by simp [Ffc.l1] at h⟩
 | k + 1 => by
  obtain ⟨ih0, ih1, ih2⟩ := Ffc.mono_l k; refine ⟨?_, ?_, ?_⟩
  ·intro y0 y1 y2 y3 y4 y5 y6 y7 y8 y9 y10
   unfold Ffc.j0
   repeat' first | (with_reducible first | exact ih0 _ _ _ _ _ _ _ _ _ _ _ | exact ih1 _ _ _ _ _ _ _ _ _ _ _ _ | exact ih2 _ _ _ _ _ _ _ _ _ _ _ _ | exact lA | apply lI | refine lB ?_ fun _ => ?_) | exact lN _ | apply lI | refine lB ?_ fun _ => ?_
  ·intro y0 y1 y2 y3 y4 y5 y6 y7 y8 y9 y10 y11
   unfold Ffc.l0
   repeat' first | (with_reducible first | exact ih0 _ _ _ _ _ _ _ _ _ _ _ | exact ih1 _ _ _ _ _ _ _ _ _ _ _ _ | exact ih2 _ _ _ _ _ _ _ _ _ _ _ _ | exact lA | apply lI | refine lB ?_ fun _ => ?_) | exact lN _ | apply lI | refine lB ?_ fun _ => ?_
  ·intro y0 y1 y2 y3 y4 y5 y6 y7 y8 y9 y10 y11
   unfold Ffc.l1
   repeat' first | (with_reducible first | exact ih0 _ _ _ _ _ _ _ _ _ _ _ | exact ih1 _ _ _ _ _ _ _ _ _ _ _ _ | exact ih2 _ _ _ _ _ _ _ _ _ _ _ _ | exact lA | apply lI | refine lB ?_ fun _ => ?_) | exact lN _ | apply lI | refine lB ?_ fun _ => ?_
theorem Ffc.mono : ∀ a0 a1 a2 a3 a4 a5 a6 a7 a8 a9 k, LeO (Ffc.f k a0 a1 a2 a3 a4 a5 a6 a7 a8 a9) (Ffc.f (k + 1) a0 a1 a2 a3 a4 a5 a6 a7 a8 a9) := by
 intro a0 a1 a2 a3 a4 a5 a6 a7 a8 a9 k; obtain ⟨ih0, ih1, ih2⟩ := Ffc.mono_l k
 unfold Ffc.f
 repeat' first | (with_reducible first | exact ih0 _ _ _ _ _ _ _ _ _ _ _ | exact ih1 _ _ _ _ _ _ _ _ _ _ _ _ | exact ih2 _ _ _ _ _ _ _ _ _ _ _ _ | exact lA | apply lI | refine lB ?_ fun _ => ?_) | exact lN _ | apply lI | refine lB ?_ fun _ => ?_
set_option maxHeartbeats 8000000 in
set_option maxRecDepth 100000 in
theorem Ffc.calls (k : Nat) (a0_0 : Int) (A0_1 : Option Addr) (c0_1 : Nat) (l0_1 : List ByteArray) (A0_2 : Option Addr) (c0_2 : Nat) (l0_2 : List Int) (a0_3 : Int) (a0_4 : Int) (a1_0 : Int) (A1_1 : Option Addr) (c1_1 : Nat) (l1_1 : List ByteArray) (A1_2 : Option Addr) (c1_2 : Nat) (l1_2 : List Int) (a1_3 : Int) (a1_4 : Int) (r : Bool) (w : World) (hr0_1 : Kd.C Kd.string w A0_1 l0_1.length l0_1) (hc0_1 : l0_1.length ≤ c0_1) (hr0_2 : Kd.C (Kd.int .i64) w A0_2 l0_2.length l0_2) (hc0_2 : l0_2.length ≤ c0_2) (hr1_1 : Kd.C Kd.string w A1_1 l1_1.length l1_1) (hc1_1 : l1_1.length ≤ c1_1) (hr1_2 : Kd.C (Kd.int .i64) w A1_2 l1_2.length l1_2) (hc1_2 : l1_2.length ≤ c1_2) (h : Ffc.f k a0_0 l0_1 l0_2 a0_3 a0_4 a1_0 l1_1 l1_2 a1_3 a1_4 = some r) :
  Calls Try.prog 13 #[.agg #[.int .i64 a0_0, .slice A0_1 l0_1.length c0_1, .slice A0_2 l0_2.length c0_2, .int .i64 a0_3, .int .i64 a0_4], .agg #[.int .i64 a1_0, .slice A1_1 l1_1.length c1_1, .slice A1_2 l1_2.length c1_2, .int .i64 a1_3, .int .i64 a1_4]] w fun e w' => e = .returned (.bool r) ∧ Below w.heap.size w w' := by
 have hu26 := Try.underlying26; have HR0_1 := Aside0.mk hr0_1; have HC0_1 := Aside0.mk hc0_1; clear hr0_1 hc0_1; have HR0_2 := Aside0.mk hr0_2; have HC0_2 := Aside0.mk hc0_2; clear hr0_2 hc0_2; have HR1_1 := Aside0.mk hr1_1; have HC1_1 := Aside0.mk hc1_1; clear hr1_1 hc1_1; have HR1_2 := Aside0.mk hr1_2; have HC1_2 := Aside0.mk hc1_2; clear hr1_2 hc1_2; have HB := Aside0.mk (Qg w.heap.size w); have H : (if a0_0 = a1_0 then (if a0_3 = a1_3 then (if a0_4 = a1_4 then (if (l0_1.length : Int) = (l1_1.length : Int) then (Ffc.j0 k ((l0_2.length : Int) != (l1_2.length : Int)) a0_0 l0_1 l0_2 a0_3 a0_4 a1_0 l1_1 l1_2 a1_3 a1_4) else (Ffc.j0 k true a0_0 l0_1 l0_2 a0_3 a0_4 a1_0 l1_1 l1_2 a1_3 a1_4)) else (Ffc.j0 k true a0_0 l0_1 l0_2 a0_3 a0_4 a1_0 l1_1 l1_2 a1_3 a1_4)) else (Ffc.j0 k true a0_0 l0_1 l0_2 a0_3 a0_4 a1_0 l1_1 l1_2 a1_3 a1_4)) else (Ffc.j0 k true a0_0 l0_1 l0_2 a0_3 a0_4 a1_0 l1_1 l1_2 a1_3 a1_4)) = some r := h; clear h; have HC3 := Aside0.mk H; clear H
 go_enter Try.func13, Try.ntmps13
 go_upto_region 1 with (first | ((with_reducible refine Qa (N := 2) rfl ?_); (try (refine gate_guard (by rfl) ?_; dsimp only)); refine be_ (cs := #[.int .i64 a0_0, .slice A0_1 l0_1.length c0_1, .slice A0_2 l0_2.length c0_2, .int .i64 a0_3, .int .i64 a0_4]) (t := 26) ?_; intro gb364 hg w4 z hb; have BK364 := Aside0.mk (z); have GW364 := gE hg (bO HB.out); have GE364 := gE hg (bO HB.out); replace HB := hS0 HB hb; clear hb z hg) | ((with_reducible refine Qa (N := 3) rfl ?_); (try (refine gate_guard (by rfl) ?_; dsimp only)); refine be_ (cs := #[.int .i64 a1_0, .slice A1_1 l1_1.length c1_1, .slice A1_2 l1_2.length c1_2, .int .i64 a1_3, .int .i64 a1_4]) (t := 26) ?_; intro gb365 hg w5 z hb; have BK365 := Aside0.mk (z); have GW365 := gE hg (bS1 HB.out GE364.out); have GE365 := gE hg (bS1 HB.out GE364.out); replace HB := hS1 HB GE364 hb; have NB364_365 := nL hg BK364; have NB365_364 := nG hg BK364; replace BK364 := kB BK364 hb; clear hb z hg))
 repeat (go_quiet (first | ((with_reducible refine Qa (N := 2) rfl ?_); (try (refine gate_guard (by rfl) ?_; dsimp only)); refine be_ (cs := #[.int .i64 a0_0, .slice A0_1 l0_1.length c0_1, .slice A0_2 l0_2.length c0_2, .int .i64 a0_3, .int .i64 a0_4]) (t := 26) ?_; intro gb364 hg w4 z hb; have BK364 := Aside0.mk (z); have GW364 := gE hg (bO HB.out); have GE364 := gE hg (bO HB.out); replace HB := hS0 HB hb; clear hb z hg) | ((with_reducible refine Qa (N := 3) rfl ?_); (try (refine gate_guard (by rfl) ?_; dsimp only)); refine be_ (cs := #[.int .i64 a1_0, .slice A1_1 l1_1.length c1_1, .slice A1_2 l1_2.length c1_2, .int .i64 a1_3, .int .i64 a1_4]) (t := 26) ?_; intro gb365 hg w5 z hb; have BK365 := Aside0.mk (z); have GW365 := gE hg (bS1 HB.out GE364.out); have GE365 := gE hg (bS1 HB.out GE364.out); replace HB := hS1 HB GE364 hb; have NB364_365 := nL hg BK364; have NB365_364 := nG hg BK364; replace BK364 := kB BK364 hb; clear hb z hg)); go_upto_region 1 with (first | ((with_reducible refine Qa (N := 2) rfl ?_); (try (refine gate_guard (by rfl) ?_; dsimp only)); refine be_ (cs := #[.int .i64 a0_0, .slice A0_1 l0_1.length c0_1, .slice A0_2 l0_2.length c0_2, .int .i64 a0_3, .int .i64 a0_4]) (t := 26) ?_; intro gb364 hg w4 z hb; have BK364 := Aside0.mk (z); have GW364 := gE hg (bO HB.out); have GE364 := gE hg (bO HB.out); replace HB := hS0 HB hb; clear hb z hg) | ((with_reducible refine Qa (N := 3) rfl ?_); (try (refine gate_guard (by rfl) ?_; dsimp only)); refine be_ (cs := #[.int .i64 a1_0, .slice A1_1 l1_1.length c1_1, .slice A1_2 l1_2.length c1_2, .int .i64 a1_3, .int .i64 a1_4]) (t := 26) ?_; intro gb365 hg w5 z hb; have BK365 := Aside0.mk (z); have GW365 := gE hg (bS1 HB.out GE364.out); have GE365 := gE hg (bS1 HB.out GE364.out); replace HB := hS1 HB GE364 hb; have NB364_365 := nL hg BK364; have NB365_364 := nG hg BK364; replace BK364 := kB BK364 hb; clear hb z hg)))
 (try simp only [Act.put, sA, sB, sC])
 go_cut [43] (fun v43 wc => ∃ (kq : Nat) (x43_2 : Bool), v43 = .bool x43_2 ∧ Aside0 (Ffc.j0 kq x43_2 a0_0 l0_1 l0_2 a0_3 a0_4 a1_0 l1_1 l1_2 a1_3 a1_4 = some r) ∧ Aside0 (kq ≤ k) ∧ Aside0 (wc.heap[gb364]? = some (.cells #[.int .i64 a0_0, (.slice A0_1 l0_1.length c0_1), (.slice A0_2 l0_2.length c0_2), .int .i64 a0_3, .int .i64 a0_4] 26 (0, 0))) ∧ Aside0 (wc.heap[gb365]? = some (.cells #[.int .i64 a1_0, (.slice A1_1 l1_1.length c1_1), (.slice A1_2 l1_2.length c1_2), .int .i64 a1_3, .int .i64 a1_4] 26 (0, 0))) ∧ Aside0 (Below w.heap.size w wc))
 case first =>
  have H := HC3.out; clear HC3
  apply iB H <;> clear H <;> intro c6 H
  ·obtain ⟨c6b0, c6b1⟩ := bq c6; clear c6
   (first | rw [c6b0] | (simp only [i64_w, i32_w]; rw [c6b0]) | skip)
   apply iB H <;> clear H <;> intro c7 H
   ·obtain ⟨c7b0, c7b1⟩ := bq c7; clear c7
    apply iB H <;> clear H <;> intro c8 H
    ·obtain ⟨c8b0, c8b1⟩ := bq c8; clear c8
     apply iB H <;> clear H <;> intro c9 H
     ·obtain ⟨c9b0, c9b1⟩ := bq c9
      have c9b2 : (l0_1.length == l1_1.length) = true := by first | simpa using c9 | (simp at c9 ⊢; omega)
      clear c9; have A := Aside0.mk H; clear H; have hnb10 := NB364_365.out; have hnc10 := NB365_364.out; obtain ⟨hcz11_0, hcz11_1, hcz11_2, hcz11_3, hcz11_4, hfz11_0, hfz11_1, hfz11_2, hfz11_3, hfz11_4⟩ := bF5 BK364.out; obtain ⟨hcz12_0, hcz12_1, hcz12_2, hcz12_3, hcz12_4, hfz12_0, hfz12_1, hfz12_2, hfz12_3, hfz12_4⟩ := bF5 BK365.out
      go_wp2
      repeat (go_quiet (fail); try go_wp2)
      go_meet
      case rel => exact ⟨_, (((l0_2.length : Int) != (l1_2.length : Int))), sI, A, lE, ⟨kO BK364.out⟩, ⟨kO BK365.out⟩, ⟨bS2 HB.out GE364.out GE365.out⟩⟩
     ·obtain ⟨c9b0, c9b1⟩ := bn c9
      have c9b2 : (l0_1.length == l1_1.length) = false := by first | simpa using c9 | (simp at c9 ⊢; omega)
      have A := Aside0.mk H; clear H; have hnb13 := NB364_365.out; have hnc13 := NB365_364.out; obtain ⟨hcz14_0, hcz14_1, hcz14_2, hcz14_3, hcz14_4, hfz14_0, hfz14_1, hfz14_2, hfz14_3, hfz14_4⟩ := bF5 BK364.out; obtain ⟨hcz15_0, hcz15_1, hcz15_2, hcz15_3, hcz15_4, hfz15_0, hfz15_1, hfz15_2, hfz15_3, hfz15_4⟩ := bF5 BK365.out
      go_wp2
      repeat (go_quiet (fail); try go_wp2)
      go_meet
      case rel => exact ⟨_, (true), sI, A, lE, ⟨kO BK364.out⟩, ⟨kO BK365.out⟩, ⟨bS2 HB.out GE364.out GE365.out⟩⟩
    ·obtain ⟨c8b0, c8b1⟩ := bn c8; have A := Aside0.mk H; clear H; have hnb16 := NB364_365.out; have hnc16 := NB365_364.out; obtain ⟨hcz17_0, hcz17_1, hcz17_2, hcz17_3, hcz17_4, hfz17_0, hfz17_1, hfz17_2, hfz17_3, hfz17_4⟩ := bF5 BK364.out; obtain ⟨hcz18_0, hcz18_1, hcz18_2, hcz18_3, hcz18_4, hfz18_0, hfz18_1, hfz18_2, hfz18_3, hfz18_4⟩ := bF5 BK365.out
     go_wp2
     repeat (go_quiet (fail); try go_wp2)
     go_meet
     case rel => exact ⟨_, (true), sI, A, lE, ⟨kO BK364.out⟩, ⟨kO BK365.out⟩, ⟨bS2 HB.out GE364.out GE365.out⟩⟩
   ·obtain ⟨c7b0, c7b1⟩ := bn c7; have A := Aside0.mk H; clear H; have hnb19 := NB364_365.out; have hnc19 := NB365_364.out; obtain ⟨hcz20_0, hcz20_1, hcz20_2, hcz20_3, hcz20_4, hfz20_0, hfz20_1, hfz20_2, hfz20_3, hfz20_4⟩ := bF5 BK364.out; obtain ⟨hcz21_0, hcz21_1, hcz21_2, hcz21_3, hcz21_4, hfz21_0, hfz21_1, hfz21_2, hfz21_3, hfz21_4⟩ := bF5 BK365.out
    go_wp2
    repeat (go_quiet (fail); try go_wp2)
    go_meet
    case rel => exact ⟨_, (true), sI, A, lE, ⟨kO BK364.out⟩, ⟨kO BK365.out⟩, ⟨bS2 HB.out GE364.out GE365.out⟩⟩
  ·obtain ⟨c6b0, c6b1⟩ := bn c6
   (first | rw [c6b0] | (simp only [i64_w, i32_w]; rw [c6b0]) | skip)
   have A := Aside0.mk H; clear H; have hnb22 := NB364_365.out; have hnc22 := NB365_364.out; obtain ⟨hcz23_0, hcz23_1, hcz23_2, hcz23_3, hcz23_4, hfz23_0, hfz23_1, hfz23_2, hfz23_3, hfz23_4⟩ := bF5 BK364.out; obtain ⟨hcz24_0, hcz24_1, hcz24_2, hcz24_3, hcz24_4, hfz24_0, hfz24_1, hfz24_2, hfz24_3, hfz24_4⟩ := bF5 BK365.out
   go_wp2
   repeat (go_quiet (fail); try go_wp2)
   go_meet
   case rel => exact ⟨_, (true), sI, A, lE, ⟨kO BK364.out⟩, ⟨kO BK365.out⟩, ⟨bS2 HB.out GE364.out GE365.out⟩⟩
 case rest =>
  clear HC3
  try clear c1
  try clear c2
  try clear p2
  try clear c6
  try clear c6b0
  try clear c6b1
  try clear c7
  try clear c7b0
  try clear c7b1
  try clear c8
  try clear c8b0
  try clear c8b1
  try clear c9
  try clear c9b0
  try clear c9b1
  try clear c9b2
  try clear c10
  try clear c13
  try clear c16
  try clear c19
  try clear c22
  try clear hcz11_0
  try clear hcz11_1
  try clear hcz11_2
  try clear hcz11_3
  try clear hcz11_4
  try clear hcz12_0
  try clear hcz12_1
  try clear hcz12_2
  try clear hcz12_3
  try clear hcz12_4
  try clear hcz14_0
  try clear hcz14_1
  try clear hcz14_2
  try clear hcz14_3
  try clear hcz14_4
  try clear hcz15_0
  try clear hcz15_1
  try clear hcz15_2
  try clear hcz15_3
  try clear hcz15_4
  try clear hcz17_0
  try clear hcz17_1
  try clear hcz17_2
  try clear hcz17_3
  try clear hcz17_4
  try clear hcz18_0
  try clear hcz18_1
  try clear hcz18_2
  try clear hcz18_3
  try clear hcz18_4
  try clear hcz20_0
  try clear hcz20_1
  try clear hcz20_2
  try clear hcz20_3
  try clear hcz20_4
  try clear hcz21_0
  try clear hcz21_1
  try clear hcz21_2
  try clear hcz21_3
  try clear hcz21_4
  try clear hcz23_0
  try clear hcz23_1
  try clear hcz23_2
  try clear hcz23_3
  try clear hcz23_4
  try clear hcz24_0
  try clear hcz24_1
  try clear hcz24_2
  try clear hcz24_3
  try clear hcz24_4
  try clear hfz11_0
  try clear hfz11_1
  try clear hfz11_2
  try clear hfz11_3
  try clear hfz11_4
  try clear hfz12_0
  try clear hfz12_1
  try clear hfz12_2
  try clear hfz12_3
  try clear hfz12_4
  try clear hfz14_0
  try clear hfz14_1
  try clear hfz14_2
  try clear hfz14_3
  try clear hfz14_4
  try clear hfz15_0
  try clear hfz15_1
  try clear hfz15_2
  try clear hfz15_3
  try clear hfz15_4
  try clear hfz17_0
  try clear hfz17_1
  try clear hfz17_2
  try clear hfz17_3
  try clear hfz17_4
  try clear hfz18_0
  try clear hfz18_1
  try clear hfz18_2
  try clear hfz18_3
  try clear hfz18_4
  try clear hfz20_0
  try clear hfz20_1
  try clear hfz20_2
  try clear hfz20_3
  try clear hfz20_4
  try clear hfz21_0
  try clear hfz21_1
  try clear hfz21_2
  try clear hfz21_3
  try clear hfz21_4
  try clear hfz23_0
  try clear hfz23_1
  try clear hfz23_2
  try clear hfz23_3
  try clear hfz23_4
  try clear hfz24_0
  try clear hfz24_1
  try clear hfz24_2
  try clear hfz24_3
  try clear hfz24_4
  obtain ⟨kq, x43_2, rfl, B, HJ2, BK364, BK365, HB⟩ := hcut; cases kq with
  | zero => exact absurd B.out (by simp [Ffc.j0])
  | succ kj2 =>
   have H := B.out; clear B; simp only [Ffc.j0] at H
   by_cases c25 : x43_2 = true
   ·subst c25
    have H1 : (none) = some r := by rw [if_pos rfl] at H; exact H
    clear H; have H := H1; clear H1; exact absurd H (by simp)
   ·replace c25 := Qc c25; subst c25
    have H1 : (Ffc.l0 kj2 (l0_1.length : Int) 0 a0_0 l0_1 l0_2 a0_3 a0_4 a1_0 l1_1 l1_2 a1_3 a1_4) = some r := by rw [if_neg (show ¬ (false = true) by decide)] at H; exact H
    clear H; have H := H1; clear H1; have A := Aside0.mk H; clear H; have hnb26 := NB364_365.out; have hnc26 := NB365_364.out; obtain ⟨hcz27_0, hcz27_1, hcz27_2, hcz27_3, hcz27_4, hfz27_0, hfz27_1, hfz27_2, hfz27_3, hfz27_4⟩ := bF5 BK364.out
    go_wp2
    repeat (go_quiet (fail); try go_wp2)
    go_loopg [47] kj2 (fun kq v47 w' => ∃ (x47_2 : Int), v47 = .int .i64 x47_2 ∧ Aside0 (Ffc.l0 kq (l0_1.length : Int) x47_2 a0_0 l0_1 l0_2 a0_3 a0_4 a1_0 l1_1 l1_2 a1_3 a1_4 = some r) ∧ Aside0 (kq ≤ kj2) ∧ Aside0 (w'.heap[gb364]? = some (.cells #[.int .i64 a0_0, (.slice A0_1 l0_1.length c0_1), (.slice A0_2 l0_2.length c0_2), .int .i64 a0_3, .int .i64 a0_4] 26 (0, 0))) ∧ Aside0 (w'.heap[gb365]? = some (.cells #[.int .i64 a1_0, (.slice A1_1 l1_1.length c1_1), (.slice A1_2 l1_2.length c1_2), .int .i64 a1_3, .int .i64 a1_4] 26 (0, 0))) ∧ Aside0 (Below w.heap.size w w'))
    case atStart => exact ⟨(0), sI, A, ⟨Nat.le_refl _⟩, ⟨kO BK364.out⟩, ⟨kO BK365.out⟩, ⟨bS2 HB.out GE364.out GE365.out⟩⟩
    case round =>
     clear A
     try clear c1
     try clear c2
     try clear p2
     try clear c6
     try clear c6b0
     try clear c6b1
     try clear c7
     try clear c7b0
     try clear c7b1
     try clear c8
     try clear c8b0
     try clear c8b1
     try clear c9
     try clear c9b0
     try clear c9b1
     try clear c9b2
     try clear c10
     try clear c13
     try clear c16
     try clear c19
     try clear c22
     try clear c25
     try clear c26
     try clear hcz11_0
     try clear hcz11_1
     try clear hcz11_2
     try clear hcz11_3
     try clear hcz11_4
     try clear hcz12_0
     try clear hcz12_1
     try clear hcz12_2
     try clear hcz12_3
     try clear hcz12_4
     try clear hcz14_0
     try clear hcz14_1
     try clear hcz14_2
     try clear hcz14_3
     try clear hcz14_4
     try clear hcz15_0
     try clear hcz15_1
     try clear hcz15_2
     try clear hcz15_3
     try clear hcz15_4
     try clear hcz17_0
     try clear hcz17_1
     try clear hcz17_2
     try clear hcz17_3
     try clear hcz17_4
     try clear hcz18_0
     try clear hcz18_1
     try clear hcz18_2
     try clear hcz18_3
     try clear hcz18_4
     try clear hcz20_0
     try clear hcz20_1
     try clear hcz20_2
     try clear hcz20_3
     try clear hcz20_4
     try clear hcz21_0
     try clear hcz21_1
     try clear hcz21_2
     try clear hcz21_3
     try clear hcz21_4
     try clear hcz23_0
     try clear hcz23_1
     try clear hcz23_2
     try clear hcz23_3
     try clear hcz23_4
     try clear hcz24_0
     try clear hcz24_1
     try clear hcz24_2
     try clear hcz24_3
     try clear hcz24_4
     try clear hcz27_0
     try clear hcz27_1
     try clear hcz27_2
     try clear hcz27_3
     try clear hcz27_4
     try clear hfz11_0
     try clear hfz11_1
     try clear hfz11_2
     try clear hfz11_3
     try clear hfz11_4
     try clear hfz12_0
     try clear hfz12_1
     try clear hfz12_2
     try clear hfz12_3
     try clear hfz12_4
     try clear hfz14_0
     try clear hfz14_1
     try clear hfz14_2
     try clear hfz14_3
     try clear hfz14_4
     try clear hfz15_0
     try clear hfz15_1
     try clear hfz15_2
     try clear hfz15_3
     try clear hfz15_4
     try clear hfz17_0
     try clear hfz17_1
     try clear hfz17_2
     try clear hfz17_3
     try clear hfz17_4
     try clear hfz18_0
     try clear hfz18_1
     try clear hfz18_2
     try clear hfz18_3
     try clear hfz18_4
     try clear hfz20_0
     try clear hfz20_1
     try clear hfz20_2
     try clear hfz20_3
     try clear hfz20_4
     try clear hfz21_0
     try clear hfz21_1
     try clear hfz21_2
     try clear hfz21_3
     try clear hfz21_4
     try clear hfz23_0
     try clear hfz23_1
     try clear hfz23_2
     try clear hfz23_3
     try clear hfz23_4
     try clear hfz24_0
     try clear hfz24_1
     try clear hfz24_2
     try clear hfz24_3
     try clear hfz24_4
     try clear hfz27_0
     try clear hfz27_1
     try clear hfz27_2
     try clear hfz27_3
     try clear hfz27_4
     try clear p2
     obtain ⟨x47_2, rfl, B, D, BK364, BK365, HB⟩ := hrel; cases gk with
     | zero => exact absurd B.out (by simp [Ffc.l0])
     | succ k2 =>
      have H := B.out; clear B; simp only [Ffc.l0] at H
      apply iB H <;> clear H <;> intro c28 H
      ·have c28b0 := decide_eq_true c28; clear c28
       apply iB H <;> clear H <;> intro c29 H
       ·have c29b0 := decide_eq_true c29; clear c29
        apply iB H <;> clear H <;> intro c30 H
        ·have c30b0 := decide_eq_true c30; clear c30
         apply iB H <;> clear H <;> intro c31 H
         ·have c31b0 := decide_eq_true c31; clear c31
          apply iB H <;> clear H <;> intro c32 H
          ·obtain ⟨c32b0, c32b1⟩ := bq c32; clear c32; have A := Aside0.mk H; clear H; have hnb33 := NB364_365.out; have hnc33 := NB365_364.out; obtain ⟨hcz34_0, hcz34_1, hcz34_2, hcz34_3, hcz34_4, hfz34_0, hfz34_1, hfz34_2, hfz34_3, hfz34_4⟩ := bF5 BK364.out; have p366 : 0 ≤ (x47_2 : Int) := of_decide_eq_true aO; have q366 : x47_2 < (l0_1.length : Int) := of_decide_eq_true aO; obtain ⟨ad366, e366, hx366_0⟩ := Kd.at_string HR0_1.out x47_2 p366 q366; cases e366; replace hx366_0 := cX HB hx366_0; replace p366 := eq_true p366; replace q366 := eq_true q366; obtain ⟨hcz35_0, hcz35_1, hcz35_2, hcz35_3, hcz35_4, hfz35_0, hfz35_1, hfz35_2, hfz35_3, hfz35_4⟩ := bF5 BK365.out; have p367 : 0 ≤ (x47_2 : Int) := of_decide_eq_true aO; have q367 : x47_2 < (l1_1.length : Int) := of_decide_eq_true aO; obtain ⟨ad367, e367, hx367_0⟩ := Kd.at_string HR1_1.out x47_2 p367 q367; cases e367; replace hx367_0 := cX HB hx367_0; replace p367 := eq_true p367; replace q367 := eq_true q367
           go_wp2
           repeat (go_quiet (fail); try go_wp2)
           go_roundg k2
           case measure => have := HJ2.out; have := D.out; omega
           case rel => exact ⟨(wrap64 (x47_2 + 1)), sI, A, ⟨by have := HJ2.out; have := D.out; omega⟩, ⟨kO BK364.out⟩, ⟨kO BK365.out⟩, ⟨bS2 HB.out GE364.out GE365.out⟩⟩
          ·exact absurd H (by simp)
         ·exact absurd H (by simp)
        ·exact absurd H (by simp)
       ·exact absurd H (by simp)
      ·have c28b0 := decide_eq_false c28; clear c28; have A := Aside0.mk H; clear H; have hnb36 := NB364_365.out; have hnc36 := NB365_364.out; obtain ⟨hcz37_0, hcz37_1, hcz37_2, hcz37_3, hcz37_4, hfz37_0, hfz37_1, hfz37_2, hfz37_3, hfz37_4⟩ := bF5 BK364.out
       go_wp2
       repeat (go_quiet (fail); try go_wp2)
       go_loopg [65] k2 (fun kq v65 w' => ∃ (x65_3 : Int), v65 = .int .i64 x65_3 ∧ Aside0 (Ffc.l1 kq (l0_2.length : Int) x65_3 a0_0 l0_1 l0_2 a0_3 a0_4 a1_0 l1_1 l1_2 a1_3 a1_4 = some r) ∧ Aside0 (kq ≤ k2) ∧ Aside0 (w'.heap[gb364]? = some (.cells #[.int .i64 a0_0, (.slice A0_1 l0_1.length c0_1), (.slice A0_2 l0_2.length c0_2), .int .i64 a0_3, .int .i64 a0_4] 26 (0, 0))) ∧ Aside0 (w'.heap[gb365]? = some (.cells #[.int .i64 a1_0, (.slice A1_1 l1_1.length c1_1), (.slice A1_2 l1_2.length c1_2), .int .i64 a1_3, .int .i64 a1_4] 26 (0, 0))) ∧ Aside0 (Below w.heap.size w w'))
       case atStart => exact ⟨(0), sI, A, ⟨Nat.le_refl _⟩, ⟨kO BK364.out⟩, ⟨kO BK365.out⟩, ⟨bS2 HB.out GE364.out GE365.out⟩⟩
       case round =>
        clear A
        try clear c1
        try clear c2
        try clear p2
        try clear c3
        try clear p3
        try clear q3
        try clear hx3
        try clear c6
        try clear c6b0
        try clear c6b1
        try clear p6
        try clear c7
        try clear c7b0
        try clear c7b1
        try clear c8
        try clear c8b0
        try clear c8b1
        try clear c9
        try clear c9b0
        try clear c9b1
        try clear c9b2
        try clear c10
        try clear c13
        try clear c16
        try clear c19
        try clear c22
        try clear c25
        try clear c26
        try clear c28
        try clear c28b0
        try clear c29
        try clear c29b0
        try clear c30
        try clear c30b0
        try clear c31
        try clear c31b0
        try clear c32
        try clear c32b0
        try clear c32b1
        try clear c33
        try clear c36
        try clear p36
        try clear q36
        try clear hx36
        try clear hcz11_0
        try clear hcz11_1
        try clear hcz11_2
        try clear hcz11_3
        try clear hcz11_4
        try clear hcz12_0
        try clear hcz12_1
        try clear hcz12_2
        try clear hcz12_3
        try clear hcz12_4
        try clear hcz14_0
        try clear hcz14_1
        try clear hcz14_2
        try clear hcz14_3
        try clear hcz14_4
        try clear hcz15_0
        try clear hcz15_1
        try clear hcz15_2
        try clear hcz15_3
        try clear hcz15_4
        try clear hcz17_0
        try clear hcz17_1
        try clear hcz17_2
        try clear hcz17_3
        try clear hcz17_4
        try clear hcz18_0
        try clear hcz18_1
        try clear hcz18_2
        try clear hcz18_3
        try clear hcz18_4
        try clear hcz20_0
        try clear hcz20_1
        try clear hcz20_2
        try clear hcz20_3
        try clear hcz20_4
        try clear hcz21_0
        try clear hcz21_1
        try clear hcz21_2
        try clear hcz21_3
        try clear hcz21_4
        try clear hcz23_0
        try clear hcz23_1
        try clear hcz23_2
        try clear hcz23_3
        try clear hcz23_4
        try clear hcz24_0
        try clear hcz24_1
        try clear hcz24_2
        try clear hcz24_3
        try clear hcz24_4
        try clear hcz27_0
        try clear hcz27_1
        try clear hcz27_2
        try clear hcz27_3
        try clear hcz27_4
        try clear hcz34_0
        try clear hcz34_1
        try clear hcz34_2
        try clear hcz34_3
        try clear hcz34_4
        try clear hcz35_0
        try clear hcz35_1
        try clear hcz35_2
        try clear hcz35_3
        try clear hcz35_4
        try clear hcz37_0
        try clear hcz37_1
        try clear hcz37_2
        try clear hcz37_3
        try clear hcz37_4
        try clear hfz11_0
        try clear hfz11_1
        try clear hfz11_2
        try clear hfz11_3
        try clear hfz11_4
        try clear hfz12_0
        try clear hfz12_1
        try clear hfz12_2
        try clear hfz12_3
        try clear hfz12_4
        try clear hfz14_0
        try clear hfz14_1
        try clear hfz14_2
        try clear hfz14_3
        try clear hfz14_4
        try clear hfz15_0
        try clear hfz15_1
        try clear hfz15_2
        try clear hfz15_3
        try clear hfz15_4
        try clear hfz17_0
        try clear hfz17_1
        try clear hfz17_2
        try clear hfz17_3
        try clear hfz17_4
        try clear hfz18_0
        try clear hfz18_1
        try clear hfz18_2
        try clear hfz18_3
        try clear hfz18_4
        try clear hfz20_0
        try clear hfz20_1
        try clear hfz20_2
        try clear hfz20_3
        try clear hfz20_4
        try clear hfz21_0
        try clear hfz21_1
        try clear hfz21_2
        try clear hfz21_3
        try clear hfz21_4
        try clear hfz23_0
        try clear hfz23_1
        try clear hfz23_2
        try clear hfz23_3
        try clear hfz23_4
        try clear hfz24_0
        try clear hfz24_1
        try clear hfz24_2
        try clear hfz24_3
        try clear hfz24_4
        try clear hfz27_0
        try clear hfz27_1
        try clear hfz27_2
        try clear hfz27_3
        try clear hfz27_4
        try clear hfz34_0
        try clear hfz34_1
        try clear hfz34_2
        try clear hfz34_3
        try clear hfz34_4
        try clear hfz35_0
        try clear hfz35_1
        try clear hfz35_2
        try clear hfz35_3
        try clear hfz35_4
        try clear hfz37_0
        try clear hfz37_1
        try clear hfz37_2
        try clear hfz37_3
        try clear hfz37_4
        try clear hx366_0
        try clear hx367_0
        try clear p2
        try clear p366
        try clear p367
        try clear q366
        try clear q367
        obtain ⟨x65_3, rfl, B, E, BK364, BK365, HB⟩ := hrel; cases gk with
        | zero => exact absurd B.out (by simp [Ffc.l1])
        | succ k3 =>
         have H := B.out; clear B; simp only [Ffc.l1] at H
         apply iB H <;> clear H <;> intro c38 H
         ·have c38b0 := decide_eq_true c38; clear c38
          apply iB H <;> clear H <;> intro c39 H
          ·have c39b0 := decide_eq_true c39; clear c39
           apply iB H <;> clear H <;> intro c40 H
           ·have c40b0 := decide_eq_true c40; clear c40
            apply iB H <;> clear H <;> intro c41 H
            ·have c41b0 := decide_eq_true c41; clear c41
             apply iB H <;> clear H <;> intro c42 H
             ·obtain ⟨c42b0, c42b1⟩ := bq c42; clear c42; have A := Aside0.mk H; clear H; have hnb43 := NB364_365.out; have hnc43 := NB365_364.out; obtain ⟨hcz44_0, hcz44_1, hcz44_2, hcz44_3, hcz44_4, hfz44_0, hfz44_1, hfz44_2, hfz44_3, hfz44_4⟩ := bF5 BK364.out; have p368 : 0 ≤ (x65_3 : Int) := of_decide_eq_true aO; have q368 : x65_3 < (l0_2.length : Int) := of_decide_eq_true aO; obtain ⟨ad368, e368, hx368_0⟩ := Kd.at_int HR0_2.out x65_3 p368 q368; cases e368; replace hx368_0 := cX HB hx368_0; replace p368 := eq_true p368; replace q368 := eq_true q368; obtain ⟨hcz45_0, hcz45_1, hcz45_2, hcz45_3, hcz45_4, hfz45_0, hfz45_1, hfz45_2, hfz45_3, hfz45_4⟩ := bF5 BK365.out; have p369 : 0 ≤ (x65_3 : Int) := of_decide_eq_true aO; have q369 : x65_3 < (l1_2.length : Int) := of_decide_eq_true aO; obtain ⟨ad369, e369, hx369_0⟩ := Kd.at_int HR1_2.out x65_3 p369 q369; cases e369; replace hx369_0 := cX HB hx369_0; replace p369 := eq_true p369; replace q369 := eq_true q369
              go_wp2
              repeat (go_quiet (fail); try go_wp2)
              go_roundg k3
              case measure => have := HJ2.out; have := D.out; have := E.out; omega
              case rel => exact ⟨(wrap64 (x65_3 + 1)), sI, A, ⟨by have := HJ2.out; have := D.out; have := E.out; omega⟩, ⟨kO BK364.out⟩, ⟨kO BK365.out⟩, ⟨bS2 HB.out GE364.out GE365.out⟩⟩
             ·exact absurd H (by simp)
            ·exact absurd H (by simp)
           ·exact absurd H (by simp)
          ·exact absurd H (by simp)
         ·have c38b0 := decide_eq_false c38; clear c38; obtain rfl := Qx H
          go_wp2
          repeat (go_quiet (fail); try go_wp2)
          go_ret
          exact ⟨eW, bS2 HB.out GE364.out GE365.out⟩
end Go.Proofs.Ythgoonohpfoagaa.X
