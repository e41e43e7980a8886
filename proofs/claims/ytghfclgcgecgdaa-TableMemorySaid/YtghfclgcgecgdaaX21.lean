/- What the functions of this seat compute, and that the program's calls come to just that: written by this session's own program out of the translation; no condition. -/
import Derived.Test.YtghfclgcgecgdaaX0
import Derived.Test.YtghfclgcgecgdaaX19
import Derived.Test.YtghfclgcgecgdaaX20
namespace Go.Proofs.Ytghfclgcgecgdaa.X
open Go.RowKit Go.Proofs.YtghfclgcgecgdaaW.PrintWords Go.Proofs.YtghfclgcgecgdaaW.PrintLast Go.Proofs.YtghfclgcgecgdaaW.PrintMore
attribute [local go_sem] max2_int min2_int max_two min_two max_three min_three max_four min_four
set_option linter.unusedVariables false
set_option linter.unusedSimpArgs false
set_option maxHeartbeats 8000000
set_option maxRecDepth 100000

/-! ### tabardref12_SameDense: function 16 -/
mutual
def tabardref12_SameDense.j0 : Nat → Bool → List ByteArray → List Bool → List (List Int) → List ByteArray → List Bool → List (List Int) → Option (Bool)
 | 0, _, _, _, _, _, _, _ => none
 | k + 1, x28, x278000, x278001, x278002, x279000, x279001, x279002 => if x28 = true then (some false) else (tabardref12_SameDense.l0 k 0 x278000 x278001 x278002 x279000 x279001 x279002)
def tabardref12_SameDense.l0 : Nat → Int → List ByteArray → List Bool → List (List Int) → List ByteArray → List Bool → List (List Int) → Option (Bool)
 | 0, _, _, _, _, _, _, _ => none
 | k + 1, x5, x278000, x278001, x278002, x279000, x279001, x279002 => if x5 < (x278002.length : Int) then (if 0 ≤ x5 then (if x5 < (x279002.length : Int) then ((tabardref12_ints.f k (rd_L1 x278002 x5) (rd_L1 x279002 x5)).bind fun t283 => (if t283 = true then (tabardref12_SameDense.l0 k (wrap64 (x5 + 1)) x278000 x278001 x278002 x279000 x279001 x279002) else (some false))) else (none)) else (none)) else (some true)
end
def tabardref12_SameDense.f (k : Nat) (l0_0 : List ByteArray) (l0_1 : List Bool) (l0_2 : List (List Int)) (l1_0 : List ByteArray) (l1_1 : List Bool) (l1_2 : List (List Int)) : Option (Bool) := (tabardref12_texts.f k l0_0 l1_0).bind fun t279 => (if t279 = true then ((tabardref12_flags.f k l0_1 l1_1).bind fun t280 => (if t280 = true then (tabardref12_SameDense.j0 k ((l0_2.length : Int) != (l1_2.length : Int)) l0_0 l0_1 l0_2 l1_0 l1_1 l1_2) else (tabardref12_SameDense.j0 k true l0_0 l0_1 l0_2 l1_0 l1_1 l1_2))) else (tabardref12_SameDense.j0 k true l0_0 l0_1 l0_2 l1_0 l1_1 l1_2))
theorem tabardref12_SameDense.mono_l : ∀ k, (∀ y0 y1 y2 y3 y4 y5 y6, LeO (tabardref12_SameDense.j0 k y0 y1 y2 y3 y4 y5 y6) (tabardref12_SameDense.j0 (k + 1) y0 y1 y2 y3 y4 y5 y6)) ∧ (∀ y0 y1 y2 y3 y4 y5 y6, LeO (tabardref12_SameDense.l0 k y0 y1 y2 y3 y4 y5 y6) (tabardref12_SameDense.l0 (k + 1) y0 y1 y2 y3 y4 y5 y6))
 | 0 => ⟨fun _ _ _ _ _ _ _ r h => by simp [tabardref12_SameDense.j0] at h, fun _ _ _ _ _ _ _ r h => by simp [tabardref12_SameDense.l0] at h⟩
 | k + 1 => by
  obtain ⟨ih0, ih1⟩ := tabardref12_SameDense.mono_l k; refine ⟨?_, ?_⟩
  ·intro y0 y1 y2 y3 y4 y5 y6
   unfold tabardref12_SameDense.j0
   repeat' first | (with_reducible first | exact ih0 _ _ _ _ _ _ _ | exact ih1 _ _ _ _ _ _ _ | exact tabardref12_flags.mono _ _ _ | exact tabardref12_ints.mono _ _ _ | exact tabardref12_texts.mono _ _ _ | exact lA | apply lI | refine lB ?_ fun _ => ?_) | exact lN _ | apply lI | refine lB ?_ fun _ => ?_
  ·intro y0 y1 y2 y3 y4 y5 y6
   unfold tabardref12_SameDense.l0
   repeat' first | (with_reducible first | exact ih0 _ _ _ _ _ _ _ | exact ih1 _ _ _ _ _ _ _ | exact tabardref12_flags.mono _ _ _ | exact tabardref12_ints.mono _ _ _ | exact tabardref12_texts.mono _ _ _ | exact lA | apply lI | refine lB ?_ fun _ => ?_) | exact lN _ | apply lI | refine lB ?_ fun _ => ?_
theorem tabardref12_SameDense.mono : ∀ a0 a1 a2 a3 a4 a5 k, LeO (tabardref12_SameDense.f k a0 a1 a2 a3 a4 a5) (tabardref12_SameDense.f (k + 1) a0 a1 a2 a3 a4 a5) := by
 intro a0 a1 a2 a3 a4 a5 k; obtain ⟨ih0, ih1⟩ := tabardref12_SameDense.mono_l k
 unfold tabardref12_SameDense.f
 repeat' first | (with_reducible first | exact ih0 _ _ _ _ _ _ _ | exact ih1 _ _ _ _ _ _ _ | exact tabardref12_flags.mono _ _ _ | exact tabardref12_ints.mono _ _ _ | exact tabardref12_texts.mono _ _ _ | exact lA | apply lI | refine lB ?_ fun _ => ?_) | exact lN _ | apply lI | refine lB ?_ fun _ => ?_
theorem tabardref12_SameDense.calls (k : Nat) (al : Option Addr) (am : Nat) (G : List ByteArray) (an : Option Addr) (ao : Nat) (M : List Bool) (ap : Option Addr) (aq : Nat) (E : List (List Int)) (ar : Option Addr) (au : Nat) (I : List ByteArray) (av : Option Addr) (aw : Nat) (O : List Bool) (ax : Option Addr) (ay : Nat) (F : List (List Int)) (r : Bool) (w : World) (aL : Kd.C Kd.string w al G.length G) (aN : G.length ≤ am) (aP : Kd.C Kd.bool w an M.length M) (aQ : M.length ≤ ao) (aR : Kd.C (Kd.slice 3 (Kd.int .i64)) w ap E.length E) (aS : E.length ≤ aq) (aT : Kd.C Kd.string w ar I.length I) (aU : I.length ≤ au) (aV : Kd.C Kd.bool w av O.length O) (aW : O.length ≤ aw) (aX : Kd.C (Kd.slice 3 (Kd.int .i64)) w ax F.length F) (aY : F.length ≤ ay) (h : tabardref12_SameDense.f k G M E I O F = some r) :
  Calls Try.prog 16 #[.agg #[.slice al G.length am, .slice an M.length ao, .slice ap E.length aq], .agg #[.slice ar I.length au, .slice av O.length aw, .slice ax F.length ay]] w fun e w' => e = .returned (.bool r) ∧ Below w.heap.size w w' := by
 have hu26 := Try.underlying26; have W := aM aL; have Y := aM aN; clear aL aN; have ah := aM aP; have ai := aM aQ; clear aP aQ; have aZ := aM aR; have cF := aM aS; clear aR aS; have Z := aM aT; have aa := aM aU; clear aT aU; have aj := aM aV; have ak := aM aW; clear aV aW; have a6 := aM aX; have cG := aM aY; clear aX aY; have HB := aM (Below.refl w.heap.size w); rw [tabardref12_SameDense.f] at h; have H := h; clear h; have be := aM H; clear H
 go_enter Try.func16, Try.ntmps16
 go_upto_region 1 with (first | ((with_reducible refine gate_dst (N := 2) rfl ?_); (try (refine gate_guard (by rfl) ?_; dsimp only)); refine be_ (cs := #[.slice al G.length am, .slice an M.length ao, .slice ap E.length aq]) (t := 26) ?_; intro aD hg w4 aI hb; have A := aM (aI); have a7 := gE hg (bP0 HB); have z := gE hg (bP0 HB); replace HB := hS0 HB hb; clear hb aI hg) | ((with_reducible refine gate_dst (N := 3) rfl ?_); (try (refine gate_guard (by rfl) ?_; dsimp only)); refine be_ (cs := #[.slice ar I.length au, .slice av O.length aw, .slice ax F.length ay]) (t := 26) ?_; intro aE hg w5 aI hb; have P := aM (aI); have a8 := gE hg (bP1 HB z); have D := gE hg (bP1 HB z); replace HB := hS1 HB z hb; have J := nL hg A; have L := nG hg A; replace A := kB A hb; clear hb aI hg))
 repeat (go_quiet (first | ((with_reducible refine gate_dst (N := 2) rfl ?_); (try (refine gate_guard (by rfl) ?_; dsimp only)); refine be_ (cs := #[.slice al G.length am, .slice an M.length ao, .slice ap E.length aq]) (t := 26) ?_; intro aD hg w4 aI hb; have A := aM (aI); have a7 := gE hg (bP0 HB); have z := gE hg (bP0 HB); replace HB := hS0 HB hb; clear hb aI hg) | ((with_reducible refine gate_dst (N := 3) rfl ?_); (try (refine gate_guard (by rfl) ?_; dsimp only)); refine be_ (cs := #[.slice ar I.length au, .slice av O.length aw, .slice ax F.length ay]) (t := 26) ?_; intro aE hg w5 aI hb; have P := aM (aI); have a8 := gE hg (bP1 HB z); have D := gE hg (bP1 HB z); replace HB := hS1 HB z hb; have J := nL hg A; have L := nG hg A; replace A := kB A hb; clear hb aI hg)); go_upto_region 1 with (first | ((with_reducible refine gate_dst (N := 2) rfl ?_); (try (refine gate_guard (by rfl) ?_; dsimp only)); refine be_ (cs := #[.slice al G.length am, .slice an M.length ao, .slice ap E.length aq]) (t := 26) ?_; intro aD hg w4 aI hb; have A := aM (aI); have a7 := gE hg (bP0 HB); have z := gE hg (bP0 HB); replace HB := hS0 HB hb; clear hb aI hg) | ((with_reducible refine gate_dst (N := 3) rfl ?_); (try (refine gate_guard (by rfl) ?_; dsimp only)); refine be_ (cs := #[.slice ar I.length au, .slice av O.length aw, .slice ax F.length ay]) (t := 26) ?_; intro aE hg w5 aI hb; have P := aM (aI); have a8 := gE hg (bP1 HB z); have D := gE hg (bP1 HB z); replace HB := hS1 HB z hb; have J := nL hg A; have L := nG hg A; replace A := kB A hb; clear hb aI hg)))
 (try simp only [Act.put, sA, sB, sC])
 go_cut [28] (fun cE wc => ∃ (kq : Nat) (aF : Bool), cE = .bool aF ∧ Aside0 (tabardref12_SameDense.j0 kq aF G M E I O F = some r) ∧ Aside0 (kq ≤ k) ∧ Aside0 (wc.heap[aD]? = some (.cells #[(.slice al G.length am), (.slice an M.length ao), (.slice ap E.length aq)] 26 (0, 0))) ∧ Aside0 (wc.heap[aE]? = some (.cells #[(.slice ar I.length au), (.slice av O.length aw), (.slice ax F.length ay)] 26 (0, 0))) ∧ BA w wc)
 case first =>
  have H := be.out; clear be; apply bSx H; clear H; intro bs A6 H
  by_cases c7 : bs = true
  ·subst c7
   rw [if_pos rfl] at H; apply bSx H; clear H; intro bt A8 H
   by_cases c9 : bt = true
   ·subst c9
    rw [if_pos rfl] at H; have H' := aM H; clear H; have cH := J.out; have cI := L.out; obtain ⟨bv, bw, bx, bz, bA, bB⟩ := bG3 A; obtain ⟨bC, bD, bE, bF, bG, bH⟩ := bG3 P
    go_wp2_with (first | (go_at_call 41; (with_reducible refine (tabardref12_texts.calls k _ _ G _ _ I true _ ?s1 Y.out ?s3 aa.out A6.out).mono ?_); (case s1 => exact cB W HB); (case s3 => exact cB Z HB); rintro e w' ⟨rfl, ⟨nd, rfl⟩⟩; (try exact dN)) | (go_at_call 42; (with_reducible refine (tabardref12_flags.calls k _ _ M _ _ O true _ ?s1 ai.out ?s3 ak.out A8.out).mono ?_); (case s1 => repeat (first | exact (Kd.C_below ah.out (bP2 HB z D)) | (with_reducible refine Kd.C_alloc ?_ _) | (with_reducible refine Kd.C_drewN ?_ _) | (with_reducible refine Kd.C_drew ?_))); (case s3 => repeat (first | exact (Kd.C_below aj.out (bP2 HB z D)) | (with_reducible refine Kd.C_alloc ?_ _) | (with_reducible refine Kd.C_drewN ?_ _) | (with_reducible refine Kd.C_drew ?_))); rintro e w' ⟨rfl, ⟨nd, rfl⟩⟩; (try exact dN)))
    repeat (go_quiet (first | (go_at_call 41; (with_reducible refine (tabardref12_texts.calls k _ _ G _ _ I true _ ?s1 Y.out ?s3 aa.out A6.out).mono ?_); (case s1 => exact cB W HB); (case s3 => exact cB Z HB); rintro e w' ⟨rfl, ⟨nd, rfl⟩⟩; (try exact dN)) | (go_at_call 42; (with_reducible refine (tabardref12_flags.calls k _ _ M _ _ O true _ ?s1 ai.out ?s3 ak.out A8.out).mono ?_); (case s1 => repeat (first | exact (Kd.C_below ah.out (bP2 HB z D)) | (with_reducible refine Kd.C_alloc ?_ _) | (with_reducible refine Kd.C_drewN ?_ _) | (with_reducible refine Kd.C_drew ?_))); (case s3 => repeat (first | exact (Kd.C_below aj.out (bP2 HB z D)) | (with_reducible refine Kd.C_alloc ?_ _) | (with_reducible refine Kd.C_drewN ?_ _) | (with_reducible refine Kd.C_drew ?_))); rintro e w' ⟨rfl, ⟨nd, rfl⟩⟩; (try exact dN))); try go_wp2_with (first | (go_at_call 41; (with_reducible refine (tabardref12_texts.calls k _ _ G _ _ I true _ ?s1 Y.out ?s3 aa.out A6.out).mono ?_); (case s1 => exact cB W HB); (case s3 => exact cB Z HB); rintro e w' ⟨rfl, ⟨nd, rfl⟩⟩; (try exact dN)) | (go_at_call 42; (with_reducible refine (tabardref12_flags.calls k _ _ M _ _ O true _ ?s1 ai.out ?s3 ak.out A8.out).mono ?_); (case s1 => repeat (first | exact (Kd.C_below ah.out (bP2 HB z D)) | (with_reducible refine Kd.C_alloc ?_ _) | (with_reducible refine Kd.C_drewN ?_ _) | (with_reducible refine Kd.C_drew ?_))); (case s3 => repeat (first | exact (Kd.C_below aj.out (bP2 HB z D)) | (with_reducible refine Kd.C_alloc ?_ _) | (with_reducible refine Kd.C_drewN ?_ _) | (with_reducible refine Kd.C_drew ?_))); rintro e w' ⟨rfl, ⟨nd, rfl⟩⟩; (try exact dN))))
    go_meet
    case rel => exact ⟨_, (((E.length : Int) != (F.length : Int))), sI, H', lE, kQ A, kQ P, bT2 HB z D⟩
   ·replace c9 := Bool.eq_false_iff.mpr c9; subst c9
    rw [if_neg nF] at H; have H' := aM H; clear H; have cJ := J.out; have cK := L.out; obtain ⟨bI, bJ, bK, bL, bM, bN⟩ := bG3 A; obtain ⟨bO, bP, bQ, bR, bS, bT⟩ := bG3 P
    go_wp2_with (first | (go_at_call 41; (with_reducible refine (tabardref12_texts.calls k _ _ G _ _ I true _ ?s1 Y.out ?s3 aa.out A6.out).mono ?_); (case s1 => exact cB W HB); (case s3 => exact cB Z HB); rintro e w' ⟨rfl, ⟨nd, rfl⟩⟩; (try exact dN)) | (go_at_call 42; (with_reducible refine (tabardref12_flags.calls k _ _ M _ _ O false _ ?s1 ai.out ?s3 ak.out A8.out).mono ?_); (case s1 => repeat (first | exact (Kd.C_below ah.out (bP2 HB z D)) | (with_reducible refine Kd.C_alloc ?_ _) | (with_reducible refine Kd.C_drewN ?_ _) | (with_reducible refine Kd.C_drew ?_))); (case s3 => repeat (first | exact (Kd.C_below aj.out (bP2 HB z D)) | (with_reducible refine Kd.C_alloc ?_ _) | (with_reducible refine Kd.C_drewN ?_ _) | (with_reducible refine Kd.C_drew ?_))); rintro e w' ⟨rfl, ⟨nd, rfl⟩⟩; (try exact dN)))
    repeat (go_quiet (first | (go_at_call 41; (with_reducible refine (tabardref12_texts.calls k _ _ G _ _ I true _ ?s1 Y.out ?s3 aa.out A6.out).mono ?_); (case s1 => exact cB W HB); (case s3 => exact cB Z HB); rintro e w' ⟨rfl, ⟨nd, rfl⟩⟩; (try exact dN)) | (go_at_call 42; (with_reducible refine (tabardref12_flags.calls k _ _ M _ _ O false _ ?s1 ai.out ?s3 ak.out A8.out).mono ?_); (case s1 => repeat (first | exact (Kd.C_below ah.out (bP2 HB z D)) | (with_reducible refine Kd.C_alloc ?_ _) | (with_reducible refine Kd.C_drewN ?_ _) | (with_reducible refine Kd.C_drew ?_))); (case s3 => repeat (first | exact (Kd.C_below aj.out (bP2 HB z D)) | (with_reducible refine Kd.C_alloc ?_ _) | (with_reducible refine Kd.C_drewN ?_ _) | (with_reducible refine Kd.C_drew ?_))); rintro e w' ⟨rfl, ⟨nd, rfl⟩⟩; (try exact dN))); try go_wp2_with (first | (go_at_call 41; (with_reducible refine (tabardref12_texts.calls k _ _ G _ _ I true _ ?s1 Y.out ?s3 aa.out A6.out).mono ?_); (case s1 => exact cB W HB); (case s3 => exact cB Z HB); rintro e w' ⟨rfl, ⟨nd, rfl⟩⟩; (try exact dN)) | (go_at_call 42; (with_reducible refine (tabardref12_flags.calls k _ _ M _ _ O false _ ?s1 ai.out ?s3 ak.out A8.out).mono ?_); (case s1 => repeat (first | exact (Kd.C_below ah.out (bP2 HB z D)) | (with_reducible refine Kd.C_alloc ?_ _) | (with_reducible refine Kd.C_drewN ?_ _) | (with_reducible refine Kd.C_drew ?_))); (case s3 => repeat (first | exact (Kd.C_below aj.out (bP2 HB z D)) | (with_reducible refine Kd.C_alloc ?_ _) | (with_reducible refine Kd.C_drewN ?_ _) | (with_reducible refine Kd.C_drew ?_))); rintro e w' ⟨rfl, ⟨nd, rfl⟩⟩; (try exact dN))))
    go_meet
    case rel => exact ⟨_, (true), sI, H', lE, kQ A, kQ P, bT2 HB z D⟩
  ·replace c7 := Bool.eq_false_iff.mpr c7; subst c7
   rw [if_neg nF] at H; have H' := aM H; clear H; have cL := J.out; have cM := L.out; obtain ⟨bU, bV, bW, bX, bY, bZ⟩ := bG3 A; obtain ⟨b0, b1, b2, b3, b4, b5⟩ := bG3 P
   go_wp2_with (first | (go_at_call 41; (with_reducible refine (tabardref12_texts.calls k _ _ G _ _ I false _ ?s1 Y.out ?s3 aa.out A6.out).mono ?_); (case s1 => exact cB W HB); (case s3 => exact cB Z HB); rintro e w' ⟨rfl, ⟨nd, rfl⟩⟩; (try exact dN)))
   repeat (go_quiet (first | (go_at_call 41; (with_reducible refine (tabardref12_texts.calls k _ _ G _ _ I false _ ?s1 Y.out ?s3 aa.out A6.out).mono ?_); (case s1 => exact cB W HB); (case s3 => exact cB Z HB); rintro e w' ⟨rfl, ⟨nd, rfl⟩⟩; (try exact dN))); try go_wp2_with (first | (go_at_call 41; (with_reducible refine (tabardref12_texts.calls k _ _ G _ _ I false _ ?s1 Y.out ?s3 aa.out A6.out).mono ?_); (case s1 => exact cB W HB); (case s3 => exact cB Z HB); rintro e w' ⟨rfl, ⟨nd, rfl⟩⟩; (try exact dN))))
   go_meet
   case rel => exact ⟨_, (true), sI, H', lE, kQ A, kQ P, bT2 HB z D⟩
 case rest =>
  clear be
  obtain ⟨kq, aF, rfl, HA, HJ2, A, P, HB⟩ := hcut; cases kq with
  | zero => exact absurd HA.out (by simp [tabardref12_SameDense.j0])
  | succ br =>
   have H := HA.out; clear HA; simp only [tabardref12_SameDense.j0] at H
   by_cases a9 : aF = true
   ·subst a9
    rw [if_pos rfl] at H; obtain rfl := Option.some.inj H
    go_wp2
    repeat (go_quiet (fail); try go_wp2)
    go_ret
    exact ⟨eW, bS2 HB.out z.out D.out⟩
   ·replace a9 := Bool.eq_false_iff.mpr a9; subst a9
    rw [if_neg nF] at H; have H' := aM H; clear H
    go_wp2
    repeat (go_quiet (fail); try go_wp2)
    go_loopg [5] br (fun kq v5 w' => ∃ (B : Int), v5 = .int .i64 B ∧ Aside0 (tabardref12_SameDense.l0 kq B G M E I O F = some r) ∧ Aside0 (kq ≤ br) ∧ Aside0 (w'.heap[aD]? = some (.cells #[(.slice al G.length am), (.slice an M.length ao), (.slice ap E.length aq)] 26 (0, 0))) ∧ Aside0 (w'.heap[aE]? = some (.cells #[(.slice ar I.length au), (.slice av O.length aw), (.slice ax F.length ay)] 26 (0, 0))) ∧ BA w w')
    case atStart => exact ⟨(0), sI, H', ⟨Nat.le_refl _⟩, kQ A, kQ P, bT2 HB z D⟩
    case round =>
     clear H'
     obtain ⟨B, rfl, HA, bl, A, P, HB⟩ := hrel; cases gk with
     | zero => exact absurd HA.out (by simp [tabardref12_SameDense.l0])
     | succ k2 =>
      have H := HA.out; clear HA; simp only [tabardref12_SameDense.l0] at H
      apply iB H <;> clear H <;> intro aG H
      ·have bm := dT aG; clear aG
       apply iN H; clear H; intro ba H; have cN := dT ba; clear ba
       apply iN H; clear H; intro bb H; have cO := dT bb; clear bb; apply bSx H; clear H; intro bu aH H
       by_cases bc : bu = true
       ·subst bc
        rw [if_pos rfl] at H; have H' := aM H; clear H; have cP := J.out; have cQ := L.out; obtain ⟨b6, b7, b8, b9, ca, cb⟩ := bG3 A; have az : 0 ≤ (B : Int) := oT aO; have aA : B < (E.length : Int) := oT aO; obtain ⟨bn, bg, bh, aJ, ab, ac, ad⟩ := at_L1 aZ.out B az aA; cases aJ; replace ab := cX HB ab; have Q := aM ad; have R := aM ac; clear ad ac; replace az := eq_true az; replace aA := eq_true aA; obtain ⟨cc, cd, ce, cf, cg, ch⟩ := bG3 P; have aB : 0 ≤ (B : Int) := oT aO; have aC : B < (F.length : Int) := oT aO; obtain ⟨bo, bi, bj, aK, ae, af, ag⟩ := at_L1 a6.out B aB aC; cases aK; replace ae := cX HB ae; have U := aM ag; have V := aM af; clear ag af; replace aB := eq_true aB; replace aC := eq_true aC
        go_wp2_with (first | (go_at_call 43; (with_reducible refine (tabardref12_ints.calls k2 _ _ (rd_L1 E B) _ _ (rd_L1 F B) true _ ?s1 R.out ?s3 V.out aH.out).mono ?_); (case s1 => exact cB Q HB); (case s3 => exact cB U HB); rintro e w' ⟨rfl, ⟨nd, rfl⟩⟩; (try exact dN)))
        repeat (go_quiet (first | (go_at_call 43; (with_reducible refine (tabardref12_ints.calls k2 _ _ (rd_L1 E B) _ _ (rd_L1 F B) true _ ?s1 R.out ?s3 V.out aH.out).mono ?_); (case s1 => exact cB Q HB); (case s3 => exact cB U HB); rintro e w' ⟨rfl, ⟨nd, rfl⟩⟩; (try exact dN))); try go_wp2_with (first | (go_at_call 43; (with_reducible refine (tabardref12_ints.calls k2 _ _ (rd_L1 E B) _ _ (rd_L1 F B) true _ ?s1 R.out ?s3 V.out aH.out).mono ?_); (case s1 => exact cB Q HB); (case s3 => exact cB U HB); rintro e w' ⟨rfl, ⟨nd, rfl⟩⟩; (try exact dN))))
        go_roundg k2
        case measure => have := HJ2.out; have := bl.out; omega
        case rel => exact ⟨(wrap64 (B + 1)), sI, H', ⟨by have := HJ2.out; have := bl.out; omega⟩, kQ A, kQ P, bT2 HB z D⟩
       ·replace bc := Bool.eq_false_iff.mpr bc; subst bc
        rw [if_neg nF] at H; obtain rfl := Option.some.inj H; have cR := J.out; have cS := L.out; obtain ⟨ci, cj, ck, cl, cm, cn⟩ := bG3 A; have az : 0 ≤ (B : Int) := oT aO; have aA : B < (E.length : Int) := oT aO; obtain ⟨bn, bg, bh, aJ, ab, ac, ad⟩ := at_L1 aZ.out B az aA; cases aJ; replace ab := cX HB ab; have Q := aM ad; have R := aM ac; clear ad ac; replace az := eq_true az; replace aA := eq_true aA; obtain ⟨co, cp, cq, cr, ct, cu⟩ := bG3 P; have aB : 0 ≤ (B : Int) := oT aO; have aC : B < (F.length : Int) := oT aO; obtain ⟨bo, bi, bj, aK, ae, af, ag⟩ := at_L1 a6.out B aB aC; cases aK; replace ae := cX HB ae; have U := aM ag; have V := aM af; clear ag af; replace aB := eq_true aB; replace aC := eq_true aC
        go_wp2_with (first | (go_at_call 43; (with_reducible refine (tabardref12_ints.calls k2 _ _ (rd_L1 E B) _ _ (rd_L1 F B) false _ ?s1 R.out ?s3 V.out aH.out).mono ?_); (case s1 => exact cB Q HB); (case s3 => exact cB U HB); rintro e w' ⟨rfl, ⟨nd, rfl⟩⟩; (try exact dN)))
        repeat (go_quiet (first | (go_at_call 43; (with_reducible refine (tabardref12_ints.calls k2 _ _ (rd_L1 E B) _ _ (rd_L1 F B) false _ ?s1 R.out ?s3 V.out aH.out).mono ?_); (case s1 => exact cB Q HB); (case s3 => exact cB U HB); rintro e w' ⟨rfl, ⟨nd, rfl⟩⟩; (try exact dN))); try go_wp2_with (first | (go_at_call 43; (with_reducible refine (tabardref12_ints.calls k2 _ _ (rd_L1 E B) _ _ (rd_L1 F B) false _ ?s1 R.out ?s3 V.out aH.out).mono ?_); (case s1 => exact cB Q HB); (case s3 => exact cB U HB); rintro e w' ⟨rfl, ⟨nd, rfl⟩⟩; (try exact dN))))
        go_ret
        exact ⟨eW, bS2 HB.out z.out D.out⟩
      ·have bm := decide_eq_false aG; clear aG; obtain rfl := Option.some.inj H; have cT := J.out; have cU := L.out; obtain ⟨cv, cw, cx, cy, cz, cA⟩ := bG3 A
       go_wp2
       repeat (go_quiet (fail); try go_wp2)
       go_ret
       exact ⟨eW, bS2 HB.out z.out D.out⟩

end Go.Proofs.Ytghfclgcgecgdaa.X
