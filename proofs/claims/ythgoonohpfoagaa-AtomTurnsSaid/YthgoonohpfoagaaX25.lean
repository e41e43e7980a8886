/- What the functions of this seat compute, and that the program's calls come to just that: written by this session's own program out of the translation; no condition. -/
import Derived.Test.YthgoonohpfoagaaX0
import Derived.Test.YthgoonohpfoagaaX24
namespace Go.Proofs.Ythgoonohpfoagaa.X
open Go.RowKit Go.Proofs.YthgoonohpfoagaaW.PrintWords Go.Proofs.YthgoonohpfoagaaW.PrintLast Go.Proofs.YthgoonohpfoagaaW.PrintMore
attribute [local go_sem] max2_int min2_int max_two min_two max_three min_three max_four min_four
set_option linter.unusedVariables false
set_option linter.unusedSimpArgs false

/-! ### tabardref12_Takes: function 18 -/
def tabardref12_Takes.f (k : Nat) (l0_0 : List ByteArray) (l0_1 : List Bool) (l0_2 : List (List Int)) (l1 : List Int) : Option (Bool) := (tabardref12_Run.f k l0_0 l0_1 l0_2 0 l1).bind fun t267 => (if 0 ≤ t267 then (if t267 < (l0_1.length : Int) then (some (rdOf false l0_1 t267)) else (none)) else (none))
theorem tabardref12_Takes.mono : ∀ a0 a1 a2 a3 k, LeO (tabardref12_Takes.f k a0 a1 a2 a3) (tabardref12_Takes.f (k + 1) a0 a1 a2 a3) := by
 intro a0 a1 a2 a3 k
 unfold tabardref12_Takes.f
 repeat' first | (with_reducible first | exact tabardref12_Run.mono _ _ _ _ _ _ | exact lA | apply lI | refine lB ?_ fun _ => ?_) | exact lN _ | apply lI | refine lB ?_ fun _ => ?_
def tabardref12_Takes.T1 : Bool × List (List Nat × List Nat) := (true, [([], []), ([0], [0]), ([], []), ([], []), ([2, 3], [2, 3]), ([1, 4], [1, 4]), ([5], [5]), ([6, 4, 0, 1, 2, 3, 4, 5, 6], [6])])
def tabardref12_Takes.B1 : List Nat := [0, 1, 0, 0, 12, 31, 63, 127]
theorem tabardref12_Takes.tab1 : rtab .any (opsOf Try.f18 1) = tabardref12_Takes.T1 := by kernel_rfl
theorem tabardref12_Takes.bits1 : waitsOk tabardref12_Takes.T1.2 tabardref12_Takes.B1 = true := by kernel_rfl
set_option maxHeartbeats 8000000 in
set_option maxRecDepth 100000 in
theorem tabardref12_Takes.calls (k : Nat) (A0_0 : Option Addr) (c0_0 : Nat) (l0_0 : List ByteArray) (A0_1 : Option Addr) (c0_1 : Nat) (l0_1 : List Bool) (A0_2 : Option Addr) (c0_2 : Nat) (l0_2 : List (List Int)) (A1 : Option Addr) (c1 : Nat) (l1 : List Int) (r : Bool) (w : World) (hr0_0 : Kd.C Kd.string w A0_0 l0_0.length l0_0) (hc0_0 : l0_0.length ≤ c0_0) (hr0_1 : Kd.C Kd.bool w A0_1 l0_1.length l0_1) (hc0_1 : l0_1.length ≤ c0_1) (hr0_2 : Kd.C (Kd.slice 3 (Kd.int .i64)) w A0_2 l0_2.length l0_2) (hc0_2 : l0_2.length ≤ c0_2) (hr1 : Kd.C (Kd.int .i64) w A1 l1.length l1) (hc1 : l1.length ≤ c1) (h : tabardref12_Takes.f k l0_0 l0_1 l0_2 l1 = some r) :
  Calls Try.prog 18 #[.agg #[.slice A0_0 l0_0.length c0_0, .slice A0_1 l0_1.length c0_1, .slice A0_2 l0_2.length c0_2], .slice A1 l1.length c1] w fun e w' => e = .returned (.bool r) ∧ Below w.heap.size w w' := by
 have hu31 := Try.underlying31; have HR0_0 := Aside0.mk hr0_0; have HC0_0 := Aside0.mk hc0_0; clear hr0_0 hc0_0; have HR0_1 := Aside0.mk hr0_1; have HC0_1 := Aside0.mk hc0_1; clear hr0_1 hc0_1; have HR0_2 := Aside0.mk hr0_2; have HC0_2 := Aside0.mk hc0_2; clear hr0_2 hc0_2; have HR1 := Aside0.mk hr1; have HC1 := Aside0.mk hc1; clear hr1 hc1; have HB := Aside0.mk (Below.refl w.heap.size w); have H : ((tabardref12_Run.f k l0_0 l0_1 l0_2 0 l1).bind fun t267 => (if 0 ≤ t267 then (if t267 < (l0_1.length : Int) then (some (rdOf false l0_1 t267)) else (none)) else (none))) = some r := h; clear h; replace H := Option.bind_eq_some_iff.mp H; obtain ⟨t267, A30, H⟩ := H; replace H : (if 0 ≤ t267 then (if t267 < (l0_1.length : Int) then (some (rdOf false l0_1 t267)) else (none)) else (none)) = some r := H; have A3 := Aside0.mk A30; clear A30
 by_cases c4 : 0 ≤ t267
 ·rw [if_pos c4] at H; have c4b0 := decide_eq_true c4; clear c4
  by_cases c5 : t267 < (l0_1.length : Int)
  ·rw [if_pos c5] at H; have c5b0 := decide_eq_true c5; clear c5; obtain rfl := Option.some.inj H
   go_enter Try.func18, Try.ntmps18
   try go_wp2_with (first | ((with_reducible refine gate_dst (N := 2) rfl ?_); refine be_ (cs := #[.slice A0_0 l0_0.length c0_0, .slice A0_1 l0_1.length c0_1, .slice A0_2 l0_2.length c0_2]) (t := 31) ?_; intro gb266 hg w6 hbox hb; have BK266 := Aside0.mk (hbox); have GW266 := gE hg (bO HB.out); have GE266 := gE hg (bO HB.out); replace HB := hS0 HB hb; clear hb hbox hg))
   replace BK266 := kD BK266; replace HB := Aside0.mk (below_drew1 HB.out); have p268 : 0 ≤ (t267 : Int) := of_decide_eq_true aO; have q268 : t267 < (l0_1.length : Int) := of_decide_eq_true aO; obtain ⟨ad268, e268, hx268_0⟩ := Kd.at_bool HR0_1.out t267 p268 q268; have hw268_0 := hx268_0; cases e268; replace hx268_0 := cX HB hx268_0; replace p268 := eq_true p268; replace q268 := eq_true q268; refine start_ (n := 8) (S := fun w' => w'.cell? ⟨gb266, 0, none⟩ = some (.slice A0_0 l0_0.length c0_0) ∧ w'.cell? ⟨gb266, 1, none⟩ = some (.slice (some ad268) l0_1.length c0_1) ∧ w'.cell? ⟨gb266, 2, none⟩ = some (.slice A0_2 l0_2.length c0_2) ∧ w'.cell? (ad268.add (t267).toNat) = some (.bool (rdOf false l0_1 t267))) (ds := []) (bl 8 0) (by kernel_rfl) rfl rfl ⟨(blk_cell BK266.out 0).trans rfl, (blk_cell BK266.out 1).trans rfl, (blk_cell BK266.out 2).trans rfl, ((HB.out.cell (World.block_lt_of_cell? w _ hw268_0)).trans hw268_0)⟩ (fun hHeld => ?_); refine with_tabW tabardref12_Takes.tab1 tabardref12_Takes.bits1 (fun HT_ HW_ => ?_); generalize w6.drew = w7 at BK266 HB hx268_0 hHeld ⊢; refine pu_ 0 5 (bl 8 1) HT_ ?_; refine pu_ 3 8 (bl 8 9) HT_ ?_; refine tk4_ 1 6 (bl 8 11) HT_ HW_ hHeld ?_; refine tk4_ 2 7 (bl 8 15) HT_ HW_ hHeld ?_; refine one_ (i := 4) (N := some 9) (bl 8 31) rfl rfl (one_of HT_.out (by kernel_rfl)) (by decide) (fun K hK => ?_); refine gS_ Try.func36 #[.agg #[.slice A0_0 l0_0.length c0_0, .slice (some ad268) l0_1.length c0_1, .slice A0_2 l0_2.length c0_2], .int .i64 0, .slice A1 l1.length c1] ?_
   with_reducible refine (tabardref12_Run.calls k _ _ l0_0 _ _ l0_1 _ _ l0_2 0 _ _ l1 t267 _ ?s1 ?s2 ?s3 ?s4 ?s5 ?s6 ?s7 ?s8 A3.out).mono ?_
   (case s1 => exact cB HR0_0 HB)
   (case s2 => exact HC0_0.out)
   (case s3 => exact cB HR0_1 HB)
   (case s4 => exact HC0_1.out)
   (case s5 => exact cB HR0_2 HB)
   (case s6 => exact HC0_2.out)
   (case s7 => exact cB HR1 HB)
   (case s8 => exact HC1.out)
   rintro e w8 ⟨rfl, hb⟩; refine ⟨_, rfl, ?_⟩; replace BK266 := kB BK266 hb; replace HB := hS1 HB GE266 hb
   (try clear hb)
   (try clear hb2)
   (try clear hk)
   (try clear hi)
   refine hK.out _ _ ⟨(blk_cell BK266.out 0).trans rfl, (blk_cell BK266.out 1).trans rfl, (blk_cell BK266.out 2).trans rfl, ((HB.out.cell (World.block_lt_of_cell? w _ hw268_0)).trans hw268_0)⟩ (fun hHeld => ?_); clear hK K; refine nm_ 9 ?_; refine pu_ 5 10 (bl 8 63) HT_ ?_; refine tk4_ 6 11 (bl 8 127) HT_ HW_ hHeld ?_; refine pu_ 7 4 (bl 8 255) HT_ ?_; refine done_ (done_of HT_.out (by kernel_rfl)) ?_
   try go_wp2
   go_ret
   exact ⟨eW, bS1 HB.out GE266.out⟩
  ·rw [if_neg c5] at H; exact absurd H (by simp)
 ·rw [if_neg c4] at H; exact absurd H (by simp)

-- NOT PRINTED: function 5 (tabardlaw14_AtomTurns)

end Go.Proofs.Ythgoonohpfoagaa.X
