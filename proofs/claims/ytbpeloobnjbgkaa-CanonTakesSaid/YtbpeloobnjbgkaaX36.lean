/- What the functions of this seat compute, and that the program's calls come to just that: written by this session's own program out of the translation; no condition. -/
import Derived.Test.YtbpeloobnjbgkaaX0
import Derived.Test.YtbpeloobnjbgkaaX35
namespace Go.Proofs.Ytbpeloobnjbgkaa.X
open Go.RowKit Go.Proofs.YtbpeloobnjbgkaaW.PrintWords Go.Proofs.YtbpeloobnjbgkaaW.PrintLast Go.Proofs.YtbpeloobnjbgkaaW.PrintMore
attribute [local go_sem] max2_int min2_int max_two min_two max_three min_three max_four min_four
set_option linter.unusedVariables false
set_option linter.unusedSimpArgs false
set_option maxHeartbeats 8000000
set_option maxRecDepth 100000

/-! ### tabardref12_Takes: function 26 -/
def tabardref12_Takes.f (k : Nat) (l0_0 : List ByteArray) (l0_1 : List Bool) (l0_2 : List (List Int)) (l1 : List Int) : Option (Bool) := (tabardref12_Run.f k l0_0 l0_1 l0_2 0 l1).bind fun t508 => (if 0 ≤ t508 then (if t508 < (l0_1.length : Int) then (some (rdOf false l0_1 t508)) else (none)) else (none))
theorem tabardref12_Takes.mono : ∀ a0 a1 a2 a3 k, LeO (tabardref12_Takes.f k a0 a1 a2 a3) (tabardref12_Takes.f (k + 1) a0 a1 a2 a3) := by
 intro a0 a1 a2 a3 k
 unfold tabardref12_Takes.f
 repeat' first | (with_reducible first | exact tabardref12_Run.mono _ _ _ _ _ _ | exact lA | apply lI | refine lB ?_ fun _ => ?_) | exact lN _ | apply lI | refine lB ?_ fun _ => ?_
def tabardref12_Takes.T1 : Bool × List (List Nat × List Nat) := (true, [([], []), ([0], [0]), ([], []), ([], []), ([2, 3], [2, 3]), ([1, 4], [1, 4]), ([5], [5]), ([6, 4, 0, 1, 2, 3, 4, 5, 6], [6])])
def tabardref12_Takes.B1 : List Nat := [0, 1, 0, 0, 12, 31, 63, 127]
theorem tabardref12_Takes.tab1 : rtab .any (opsOf Try.f26 1) = tabardref12_Takes.T1 := by kernel_rfl
theorem tabardref12_Takes.bits1 : waitsOk tabardref12_Takes.T1.2 tabardref12_Takes.B1 = true := by kernel_rfl
theorem tabardref12_Takes.calls (k : Nat) (I : Option Addr) (J : Nat) (B : List ByteArray) (P : Option Addr) (L : Nat) (A : List Bool) (M : Option Addr) (O : Nat) (D : List (List Int)) (A1 : Option Addr) (c1 : Nat) (R : List Int) (r : Bool) (w : World) (W : Kd.C Kd.string w I B.length B) (Y : B.length ≤ J) (Z : Kd.C Kd.bool w P A.length A) (aa : A.length ≤ L) (ab : Kd.C (Kd.slice 3 (Kd.int .i64)) w M D.length D) (ac : D.length ≤ O) (an : Kd.C (Kd.int .i64) w A1 R.length R) (ao : R.length ≤ c1) (h : tabardref12_Takes.f k B A D R = some r) :
  Calls Try.prog 26 #[.agg #[.slice I B.length J, .slice P A.length L, .slice M D.length O], .slice A1 R.length c1] w fun e w' => e = .returned (.bool r) ∧ Below w.heap.size w w' := by
 have hu26 := Try.underlying26; have ag := aM W; have ah := aM Y; clear W Y; have ad := aM Z; have ai := aM aa; clear Z aa; have aj := aM ab; have ak := aM ac; clear ab ac; have av := aM an; have aw := aM ao; clear an ao; have HB := aM (Below.refl w.heap.size w); rw [tabardref12_Takes.f] at h; have H := h; clear h; apply bSx H; clear H; intro E A3 H
 apply iN H; clear H; intro c4 H; have az := dT c4; clear c4
 apply iN H; clear H; intro c5 H; have aA := dT c5; clear c5; obtain rfl := Option.some.inj H
 go_enter Try.func26, Try.ntmps26
 try go_wp2_with (first | ((with_reducible refine gate_dst (N := 2) rfl ?_); refine be_ (cs := #[.slice I B.length J, .slice P A.length L, .slice M D.length O]) (t := 26) ?_; intro Q hg w6 ar hb; have z := aM (ar); have ax := gE hg (bP0 HB); have ae := gE hg (bP0 HB); replace HB := hS0 HB hb; clear hb ar hg))
 replace z := kD z; replace HB := aM (below_drew1 HB.out); have U : 0 ≤ (E : Int) := oT aO; have V : E < (A.length : Int) := oT aO; obtain ⟨af, au, F⟩ := Kd.at_bool ad.out E U V; have G := F; cases au; replace F := cX HB F; replace U := eq_true U; replace V := eq_true V; refine start_ (n := 8) (S := fun w' => w'.cell? ⟨Q, 0, none⟩ = some (.slice I B.length J) ∧ w'.cell? ⟨Q, 1, none⟩ = some (.slice (some af) A.length L) ∧ w'.cell? ⟨Q, 2, none⟩ = some (.slice M D.length O) ∧ w'.cell? (af.add (E).toNat) = some (.bool (rdOf false A E))) (ds := []) (bl 8 0) (by kernel_rfl) rfl rfl ⟨(blk_cell z.out 0).trans rfl, (blk_cell z.out 1).trans rfl, (blk_cell z.out 2).trans rfl, ((HB.out.cell (World.block_lt_of_cell? w _ G)).trans G)⟩ (fun al => ?_); refine with_tabW tabardref12_Takes.tab1 tabardref12_Takes.bits1 (fun am aq => ?_); generalize w6.drew = w7 at z HB F al ⊢; refine pu_ 0 5 (bl 8 1) am ?_; refine pu_ 3 8 (bl 8 9) am ?_; refine tk4_ 1 6 (bl 8 11) am aq al ?_; refine tk4_ 2 7 (bl 8 15) am aq al ?_; refine one_ (i := 4) (N := some 9) (bl 8 31) rfl rfl (one_of am.out (by kernel_rfl)) (by decide) (fun K hK => ?_); refine gS_ Try.func42 #[.agg #[.slice I B.length J, .slice (some af) A.length L, .slice M D.length O], .int .i64 0, .slice A1 R.length c1] ?_
 with_reducible refine (tabardref12_Run.calls k _ _ B _ _ A _ _ D 0 _ _ R E _ ?s1 ?s2 ?s3 ?s4 ?s5 ?s6 ?s7 ?s8 A3.out).mono ?_
 (case s1 => exact cB ag HB)
 (case s2 => exact ah.out)
 (case s3 => exact cB ad HB)
 (case s4 => exact ai.out)
 (case s5 => exact cB aj HB)
 (case s6 => exact ak.out)
 (case s7 => exact cB av HB)
 (case s8 => exact aw.out)
 rintro e w8 ⟨rfl, hb⟩; refine ⟨_, rfl, ?_⟩; replace z := kB z hb; replace HB := hS1 HB ae hb
 (try clear hb)
 (try clear aC)
 (try clear hk)
 (try clear hi)
 refine hK.out _ _ ⟨(blk_cell z.out 0).trans rfl, (blk_cell z.out 1).trans rfl, (blk_cell z.out 2).trans rfl, ((HB.out.cell (World.block_lt_of_cell? w _ G)).trans G)⟩ (fun al => ?_); clear hK K; refine nm_ 9 ?_; refine pu_ 5 10 (bl 8 63) am ?_; refine tk4_ 6 11 (bl 8 127) am aq al ?_; refine pu_ 7 4 (bl 8 255) am ?_; refine done_ (done_of am.out (by kernel_rfl)) ?_
 try go_wp2
 go_ret
 exact ⟨eW, bS1 HB.out ae.out⟩

end Go.Proofs.Ytbpeloobnjbgkaa.X
