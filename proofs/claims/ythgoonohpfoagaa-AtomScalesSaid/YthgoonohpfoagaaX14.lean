/- What the functions of this seat compute, and that the program's calls come to just that: written by this session's own program out of the translation; no condition. -/
import Derived.Test.YthgoonohpfoagaaX0
import Derived.Test.YthgoonohpfoagaaX12
import Derived.Test.YthgoonohpfoagaaX13
namespace Go.Proofs.Ythgoonohpfoagaa.X
open Go.RowKit Go.Proofs.YthgoonohpfoagaaW.PrintWords Go.Proofs.YthgoonohpfoagaaW.PrintLast Go.Proofs.YthgoonohpfoagaaW.PrintMore
attribute [local go_sem] max2_int min2_int max_two min_two max_three min_three max_four min_four
set_option linter.unusedVariables false
set_option linter.unusedSimpArgs false
set_option maxHeartbeats 8000000
set_option maxRecDepth 100000

/-! ### tabardref12_SameDense: function 12 -/
mutual
def tabardref12_SameDense.j0 : Nat → Bool → List ByteArray → List Bool → List (List Int) → List ByteArray → List Bool → List (List Int) → Option (Bool)
 | 0, _, _, _, _, _, _, _ => none
 | k + 1, x28, x163000, x163001, x163002, x164000, x164001, x164002 => if x28 = true then (none) else (tabardref12_SameDense.l0 k 0 x163000 x163001 x163002 x164000 x164001 x164002)
def tabardref12_SameDense.l0 : Nat → Int → List ByteArray → List Bool → List (List Int) → List ByteArray → List Bool → List (List Int) → Option (Bool)
 | 0, _, _, _, _, _, _, _ => none
 | k + 1, x5, x163000, x163001, x163002, x164000, x164001, x164002 => if x5 < (x163002.length : Int) then (if 0 ≤ x5 then (if x5 < (x164002.length : Int) then ((tabardref12_ints.f k (rd_L3 x163002 x5) (rd_L3 x164002 x5)).bind fun t168 => (if t168 = true then (tabardref12_SameDense.l0 k (wrap64 (x5 + 1)) x163000 x163001 x163002 x164000 x164001 x164002) else (none))) else (none)) else (none)) else (some true)
end
def tabardref12_SameDense.f (k : Nat) (l0_0 : List ByteArray) (l0_1 : List Bool) (l0_2 : List (List Int)) (l1_0 : List ByteArray) (l1_1 : List Bool) (l1_2 : List (List Int)) : Option (Bool) := (tabardref12_texts.f k l0_0 l1_0).bind fun t164 => (if t164 = true then ((tabardref12_flags.f k l0_1 l1_1).bind fun t165 => (if t165 = true then (tabardref12_SameDense.j0 k ((l0_2.length : Int) != (l1_2.length : Int)) l0_0 l0_1 l0_2 l1_0 l1_1 l1_2) else (tabardref12_SameDense.j0 k true l0_0 l0_1 l0_2 l1_0 l1_1 l1_2))) else (tabardref12_SameDense.j0 k true l0_0 l0_1 l0_2 l1_0 l1_1 l1_2))
theorem tabardref12_SameDense.mono_l : ∀ k, (∀ y0 y1 y2 y3 y4 y5 y6, LeO (tabardref12_SameDense.j0 k y0 y1 y2 y3 y4 y5 y6) (tabardref12_SameDense.j0 (k + 1) y0 y1 y2 y3 y4 y5 y6)) ∧ (∀ y0 y1 y2 y3 y4 y5 y6, LeO (tabardref12_SameDense.l0 k y0 y1 y2 y3 y4 y5 y6) (tabardref12_SameDense.l0 (k + 1) y0 y1 y2 y3 y4 y5 y6))
 | 0 => ⟨fun _ _ _ _ _ _ _ r h => by simp [tabardref12_SameDense.j0] at h, fun _ _ _ _ _ _ _ r h => by simp [tabardref12_SameDense.l0] at h⟩
 | k + 1 => by
  obtain ⟨ih0, ih1⟩ := tabardref12_SameDense.mono_l k; refine ⟨?_, ?_⟩
  ·intro y0 y1 y2 y3 y4 y5 y6
   unfold tabardref12_SameDense.j0
   repeat' first | (with_reducible first | exact ih0 _ _ _ _ _ _ _ | exact ih1 _ _ _ _ _ _ _ | exact tabardref12_flags.mono _ _ _ | exact tabardref12_ints.mono _ _ _ | exact tabardref12_texts.mono _ _ _ | exact lA | apply lI | refine lB ?_ fun _ => ?_) | exact lN _ | apply lI | refine lB ?_ fun _ => ?_
  ·intro y0 y1 y2 y3 y4 y5 y6
   unfold tabardref12_SameDense.l0
   repeat' first | (with_reducible first | exact ih0 _ _ _ _ _ _ _ | exact ih1 _ _ _ _ _ _ _ | exact tabardref12_flags.mono _ _ _ | exact tabardref12_ints.mono _ _ _ | exact tabardref12_texts.mono _ _ _ | exact lA | apply lI | refine lB ?_ fun _ => ?_) | exact lN _ | apply lI | refine lB ?_ fun _ => ?_
theorem tabardref12_SameDense.mono : ∀ a0 a1 a2 a3 a4 a5 k, LeO (tabardref12_SameDense.f k a0 a1 a2 a3 a4 a5) (tabardref12_SameDense.f (k + 1) a0 a1 a2 a3 a4 a5) := by
 intro a0 a1 a2 a3 a4 a5 k; obtain ⟨ih0, ih1⟩ := tabardref12_SameDense.mono_l k
 unfold tabardref12_SameDense.f
 repeat' first | (with_reducible first | exact ih0 _ _ _ _ _ _ _ | exact ih1 _ _ _ _ _ _ _ | exact tabardref12_flags.mono _ _ _ | exact tabardref12_ints.mono _ _ _ | exact tabardref12_texts.mono _ _ _ | exact lA | apply lI | refine lB ?_ fun _ => ?_) | exact lN _ | apply lI | refine lB ?_ fun _ => ?_
theorem tabardref12_SameDense.calls (k : Nat) (ab : Option Addr) (ac : Nat) (D : List ByteArray) (ad : Option Addr) (ae : Nat) (G : List Bool) (af : Option Addr) (ag : Nat) (I : List (List Int)) (ah : Option Addr) (ai : Nat) (E : List ByteArray) (aj : Option Addr) (ak : Nat) (J : List Bool) (al : Option Addr) (am : Nat) (L : List (List Int)) (r : Bool) (w : World) (aI : Kd.C Kd.string w ab D.length D) (aJ : D.length ≤ ac) (aK : Kd.C Kd.bool w ad G.length G) (aL : G.length ≤ ae) (aN : Kd.C (Kd.slice 3 (Kd.int .i64)) w af I.length I) (aP : I.length ≤ ag) (aQ : Kd.C Kd.string w ah E.length E) (aR : E.length ≤ ai) (aS : Kd.C Kd.bool w aj J.length J) (aT : J.length ≤ ak) (aU : Kd.C (Kd.slice 3 (Kd.int .i64)) w al L.length L) (aV : L.length ≤ am) (h : tabardref12_SameDense.f k D G I E J L = some r) :
  Calls Try.prog 12 #[.agg #[.slice ab D.length ac, .slice ad G.length ae, .slice af I.length ag], .agg #[.slice ah E.length ai, .slice aj J.length ak, .slice al L.length am]] w fun e w' => e = .returned (.bool r) ∧ Below w.heap.size w w' := by
 have hu31 := Try.underlying31; have Q := aM aI; have R := aM aJ; clear aI aJ; have W := aM aK; have Y := aM aL; clear aK aL; have bc := aM aN; have cp := aM aP; clear aN aP; have U := aM aQ; have V := aM aR; clear aQ aR; have Z := aM aS; have aa := aM aT; clear aS aT; have bd := aM aU; have cq := aM aV; clear aU aV; have HB := aM (Below.refl w.heap.size w); rw [tabardref12_SameDense.f] at h; have H := h; clear h; have a9 := aM H; clear H
 go_enter Try.func12, Try.ntmps12
 go_upto_region 1 with (first | ((with_reducible refine gate_dst (N := 2) rfl ?_); (try (refine gate_guard (by rfl) ?_; dsimp only)); refine be_ (cs := #[.slice ab D.length ac, .slice ad G.length ae, .slice af I.length ag]) (t := 31) ?_; intro ar hg w4 hbox hb; have A := aM (hbox); have aW := gE hg (bP0 HB); have z := gE hg (bP0 HB); replace HB := hS0 HB hb; clear hb hbox hg) | ((with_reducible refine gate_dst (N := 3) rfl ?_); (try (refine gate_guard (by rfl) ?_; dsimp only)); refine be_ (cs := #[.slice ah E.length ai, .slice aj J.length ak, .slice al L.length am]) (t := 31) ?_; intro au hg w5 hbox hb; have P := aM (hbox); have aX := gE hg (bP1 HB z); have B := gE hg (bP1 HB z); replace HB := hS1 HB z hb; have M := nL hg A; have O := nG hg A; replace A := kB A hb; clear hb hbox hg))
 repeat (go_quiet (first | ((with_reducible refine gate_dst (N := 2) rfl ?_); (try (refine gate_guard (by rfl) ?_; dsimp only)); refine be_ (cs := #[.slice ab D.length ac, .slice ad G.length ae, .slice af I.length ag]) (t := 31) ?_; intro ar hg w4 hbox hb; have A := aM (hbox); have aW := gE hg (bP0 HB); have z := gE hg (bP0 HB); replace HB := hS0 HB hb; clear hb hbox hg) | ((with_reducible refine gate_dst (N := 3) rfl ?_); (try (refine gate_guard (by rfl) ?_; dsimp only)); refine be_ (cs := #[.slice ah E.length ai, .slice aj J.length ak, .slice al L.length am]) (t := 31) ?_; intro au hg w5 hbox hb; have P := aM (hbox); have aX := gE hg (bP1 HB z); have B := gE hg (bP1 HB z); replace HB := hS1 HB z hb; have M := nL hg A; have O := nG hg A; replace A := kB A hb; clear hb hbox hg)); go_upto_region 1 with (first | ((with_reducible refine gate_dst (N := 2) rfl ?_); (try (refine gate_guard (by rfl) ?_; dsimp only)); refine be_ (cs := #[.slice ab D.length ac, .slice ad G.length ae, .slice af I.length ag]) (t := 31) ?_; intro ar hg w4 hbox hb; have A := aM (hbox); have aW := gE hg (bP0 HB); have z := gE hg (bP0 HB); replace HB := hS0 HB hb; clear hb hbox hg) | ((with_reducible refine gate_dst (N := 3) rfl ?_); (try (refine gate_guard (by rfl) ?_; dsimp only)); refine be_ (cs := #[.slice ah E.length ai, .slice aj J.length ak, .slice al L.length am]) (t := 31) ?_; intro au hg w5 hbox hb; have P := aM (hbox); have aX := gE hg (bP1 HB z); have B := gE hg (bP1 HB z); replace HB := hS1 HB z hb; have M := nL hg A; have O := nG hg A; replace A := kB A hb; clear hb hbox hg)))
 (try simp only [Act.put, sA, sB, sC])
 go_cut [28] (fun ck wc => ∃ (kq : Nat) (av : Bool), ck = .bool av ∧ Aside0 (tabardref12_SameDense.j0 kq av D G I E J L = some r) ∧ Aside0 (kq ≤ k) ∧ Aside0 (wc.heap[ar]? = some (.cells #[(.slice ab D.length ac), (.slice ad G.length ae), (.slice af I.length ag)] 31 (0, 0))) ∧ Aside0 (wc.heap[au]? = some (.cells #[(.slice ah E.length ai), (.slice aj J.length ak), (.slice al L.length am)] 31 (0, 0))) ∧ BA w wc)
 case first =>
  have H := a9.out; clear a9; replace H := Option.bind_eq_some_iff.mp H; obtain ⟨bk, bh, H⟩ := H; have A6 := aM bh; clear bh
  by_cases c7 : bk = true
  ·subst c7
   rw [if_pos rfl] at H; replace H := Option.bind_eq_some_iff.mp H; obtain ⟨bl, bi, H⟩ := H; have A8 := aM bi; clear bi
   by_cases c9 : bl = true
   ·subst c9
    rw [if_pos rfl] at H; have H' := aM H; clear H; have cr := M.out; have ct := O.out; obtain ⟨bp, bq, br, bs, bt, bu⟩ := bG3 A; obtain ⟨bv, bw, bx, bz, bA, bB⟩ := bG3 P
    go_wp2_with (first | (go_at_call 32; (with_reducible refine (tabardref12_texts.calls k _ _ D _ _ E true _ ?s1 R.out ?s3 V.out A6.out).mono ?_); (case s1 => exact cB Q HB); (case s3 => exact cB U HB); rintro e w' ⟨rfl, ⟨nd, rfl⟩⟩; (try exact dN)) | (go_at_call 33; (with_reducible refine (tabardref12_flags.calls k _ _ G _ _ J true _ ?s1 Y.out ?s3 aa.out A8.out).mono ?_); (case s1 => repeat (first | exact (Kd.C_below W.out (bP2 HB z B)) | (with_reducible refine Kd.C_alloc ?_ _) | (with_reducible refine Kd.C_drewN ?_ _) | (with_reducible refine Kd.C_drew ?_))); (case s3 => repeat (first | exact (Kd.C_below Z.out (bP2 HB z B)) | (with_reducible refine Kd.C_alloc ?_ _) | (with_reducible refine Kd.C_drewN ?_ _) | (with_reducible refine Kd.C_drew ?_))); rintro e w' ⟨rfl, ⟨nd, rfl⟩⟩; (try exact dN)))
    repeat (go_quiet (first | (go_at_call 32; (with_reducible refine (tabardref12_texts.calls k _ _ D _ _ E true _ ?s1 R.out ?s3 V.out A6.out).mono ?_); (case s1 => exact cB Q HB); (case s3 => exact cB U HB); rintro e w' ⟨rfl, ⟨nd, rfl⟩⟩; (try exact dN)) | (go_at_call 33; (with_reducible refine (tabardref12_flags.calls k _ _ G _ _ J true _ ?s1 Y.out ?s3 aa.out A8.out).mono ?_); (case s1 => repeat (first | exact (Kd.C_below W.out (bP2 HB z B)) | (with_reducible refine Kd.C_alloc ?_ _) | (with_reducible refine Kd.C_drewN ?_ _) | (with_reducible refine Kd.C_drew ?_))); (case s3 => repeat (first | exact (Kd.C_below Z.out (bP2 HB z B)) | (with_reducible refine Kd.C_alloc ?_ _) | (with_reducible refine Kd.C_drewN ?_ _) | (with_reducible refine Kd.C_drew ?_))); rintro e w' ⟨rfl, ⟨nd, rfl⟩⟩; (try exact dN))); try go_wp2_with (first | (go_at_call 32; (with_reducible refine (tabardref12_texts.calls k _ _ D _ _ E true _ ?s1 R.out ?s3 V.out A6.out).mono ?_); (case s1 => exact cB Q HB); (case s3 => exact cB U HB); rintro e w' ⟨rfl, ⟨nd, rfl⟩⟩; (try exact dN)) | (go_at_call 33; (with_reducible refine (tabardref12_flags.calls k _ _ G _ _ J true _ ?s1 Y.out ?s3 aa.out A8.out).mono ?_); (case s1 => repeat (first | exact (Kd.C_below W.out (bP2 HB z B)) | (with_reducible refine Kd.C_alloc ?_ _) | (with_reducible refine Kd.C_drewN ?_ _) | (with_reducible refine Kd.C_drew ?_))); (case s3 => repeat (first | exact (Kd.C_below Z.out (bP2 HB z B)) | (with_reducible refine Kd.C_alloc ?_ _) | (with_reducible refine Kd.C_drewN ?_ _) | (with_reducible refine Kd.C_drew ?_))); rintro e w' ⟨rfl, ⟨nd, rfl⟩⟩; (try exact dN))))
    go_meet
    case rel => exact ⟨_, (((I.length : Int) != (L.length : Int))), sI, H', ⟨by first | omega | exact Nat.le_refl _⟩, kQ A, kQ P, bT2 HB z B⟩
   ·replace c9 := Bool.eq_false_iff.mpr c9; subst c9
    rw [if_neg nF] at H; have H' := aM H; clear H; have cu := M.out; have cv := O.out; obtain ⟨bC, bD, bE, bF, bG, bH⟩ := bG3 A; obtain ⟨bI, bJ, bK, bL, bM, bN⟩ := bG3 P
    go_wp2_with (first | (go_at_call 32; (with_reducible refine (tabardref12_texts.calls k _ _ D _ _ E true _ ?s1 R.out ?s3 V.out A6.out).mono ?_); (case s1 => exact cB Q HB); (case s3 => exact cB U HB); rintro e w' ⟨rfl, ⟨nd, rfl⟩⟩; (try exact dN)) | (go_at_call 33; (with_reducible refine (tabardref12_flags.calls k _ _ G _ _ J false _ ?s1 Y.out ?s3 aa.out A8.out).mono ?_); (case s1 => repeat (first | exact (Kd.C_below W.out (bP2 HB z B)) | (with_reducible refine Kd.C_alloc ?_ _) | (with_reducible refine Kd.C_drewN ?_ _) | (with_reducible refine Kd.C_drew ?_))); (case s3 => repeat (first | exact (Kd.C_below Z.out (bP2 HB z B)) | (with_reducible refine Kd.C_alloc ?_ _) | (with_reducible refine Kd.C_drewN ?_ _) | (with_reducible refine Kd.C_drew ?_))); rintro e w' ⟨rfl, ⟨nd, rfl⟩⟩; (try exact dN)))
    repeat (go_quiet (first | (go_at_call 32; (with_reducible refine (tabardref12_texts.calls k _ _ D _ _ E true _ ?s1 R.out ?s3 V.out A6.out).mono ?_); (case s1 => exact cB Q HB); (case s3 => exact cB U HB); rintro e w' ⟨rfl, ⟨nd, rfl⟩⟩; (try exact dN)) | (go_at_call 33; (with_reducible refine (tabardref12_flags.calls k _ _ G _ _ J false _ ?s1 Y.out ?s3 aa.out A8.out).mono ?_); (case s1 => repeat (first | exact (Kd.C_below W.out (bP2 HB z B)) | (with_reducible refine Kd.C_alloc ?_ _) | (with_reducible refine Kd.C_drewN ?_ _) | (with_reducible refine Kd.C_drew ?_))); (case s3 => repeat (first | exact (Kd.C_below Z.out (bP2 HB z B)) | (with_reducible refine Kd.C_alloc ?_ _) | (with_reducible refine Kd.C_drewN ?_ _) | (with_reducible refine Kd.C_drew ?_))); rintro e w' ⟨rfl, ⟨nd, rfl⟩⟩; (try exact dN))); try go_wp2_with (first | (go_at_call 32; (with_reducible refine (tabardref12_texts.calls k _ _ D _ _ E true _ ?s1 R.out ?s3 V.out A6.out).mono ?_); (case s1 => exact cB Q HB); (case s3 => exact cB U HB); rintro e w' ⟨rfl, ⟨nd, rfl⟩⟩; (try exact dN)) | (go_at_call 33; (with_reducible refine (tabardref12_flags.calls k _ _ G _ _ J false _ ?s1 Y.out ?s3 aa.out A8.out).mono ?_); (case s1 => repeat (first | exact (Kd.C_below W.out (bP2 HB z B)) | (with_reducible refine Kd.C_alloc ?_ _) | (with_reducible refine Kd.C_drewN ?_ _) | (with_reducible refine Kd.C_drew ?_))); (case s3 => repeat (first | exact (Kd.C_below Z.out (bP2 HB z B)) | (with_reducible refine Kd.C_alloc ?_ _) | (with_reducible refine Kd.C_drewN ?_ _) | (with_reducible refine Kd.C_drew ?_))); rintro e w' ⟨rfl, ⟨nd, rfl⟩⟩; (try exact dN))))
    go_meet
    case rel => exact ⟨_, (true), sI, H', ⟨by first | omega | exact Nat.le_refl _⟩, kQ A, kQ P, bT2 HB z B⟩
  ·replace c7 := Bool.eq_false_iff.mpr c7; subst c7
   rw [if_neg nF] at H; have H' := aM H; clear H; have cw := M.out; have cx := O.out; obtain ⟨bO, bP, bQ, bR, bS, bT⟩ := bG3 A; obtain ⟨bU, bV, bW, bX, bY, bZ⟩ := bG3 P
   go_wp2_with (first | (go_at_call 32; (with_reducible refine (tabardref12_texts.calls k _ _ D _ _ E false _ ?s1 R.out ?s3 V.out A6.out).mono ?_); (case s1 => exact cB Q HB); (case s3 => exact cB U HB); rintro e w' ⟨rfl, ⟨nd, rfl⟩⟩; (try exact dN)))
   repeat (go_quiet (first | (go_at_call 32; (with_reducible refine (tabardref12_texts.calls k _ _ D _ _ E false _ ?s1 R.out ?s3 V.out A6.out).mono ?_); (case s1 => exact cB Q HB); (case s3 => exact cB U HB); rintro e w' ⟨rfl, ⟨nd, rfl⟩⟩; (try exact dN))); try go_wp2_with (first | (go_at_call 32; (with_reducible refine (tabardref12_texts.calls k _ _ D _ _ E false _ ?s1 R.out ?s3 V.out A6.out).mono ?_); (case s1 => exact cB Q HB); (case s3 => exact cB U HB); rintro e w' ⟨rfl, ⟨nd, rfl⟩⟩; (try exact dN))))
   go_meet
   case rel => exact ⟨_, (true), sI, H', ⟨by first | omega | exact Nat.le_refl _⟩, kQ A, kQ P, bT2 HB z B⟩
 case rest =>
  clear a9
  obtain ⟨kq, av, rfl, HA, HJ2, A, P, HB⟩ := hcut; cases kq with
  | zero => exact absurd HA.out (by simp [tabardref12_SameDense.j0])
  | succ bj =>
   have H := HA.out; clear HA; simp only [tabardref12_SameDense.j0] at H
   by_cases aY : av = true
   ·subst aY
    rw [if_pos rfl] at H; exact absurd H (by simp)
   ·replace aY := Bool.eq_false_iff.mpr aY; subst aY
    rw [if_neg nF] at H; have H' := aM H; clear H
    go_wp2
    repeat (go_quiet (fail); try go_wp2)
    go_loopg [5] bj (fun kq v5 w' => ∃ (F : Int), v5 = .int .i64 F ∧ Aside0 (tabardref12_SameDense.l0 kq F D G I E J L = some r) ∧ Aside0 (kq ≤ bj) ∧ Aside0 (w'.heap[ar]? = some (.cells #[(.slice ab D.length ac), (.slice ad G.length ae), (.slice af I.length ag)] 31 (0, 0))) ∧ Aside0 (w'.heap[au]? = some (.cells #[(.slice ah E.length ai), (.slice aj J.length ak), (.slice al L.length am)] 31 (0, 0))) ∧ BA w w')
    case atStart => exact ⟨(0), sI, H', ⟨Nat.le_refl _⟩, kQ A, kQ P, bT2 HB z B⟩
    case round =>
     clear H'
     obtain ⟨F, rfl, HA, HK2, A, P, HB⟩ := hrel; cases gk with
     | zero => exact absurd HA.out (by simp [tabardref12_SameDense.l0])
     | succ k2 =>
      have H := HA.out; clear HA; simp only [tabardref12_SameDense.l0] at H
      by_cases aw : F < (I.length : Int)
      ·rw [if_pos aw] at H; have bg := dT aw; clear aw
       by_cases aZ : 0 ≤ F
       ·rw [if_pos aZ] at H; have cy := dT aZ; clear aZ
        by_cases a6 : F < (L.length : Int)
        ·rw [if_pos a6] at H; have cz := dT a6; clear a6; replace H := Option.bind_eq_some_iff.mp H; obtain ⟨bm, ba, H⟩ := H; have bb := aM ba; clear ba
         by_cases a7 : bm = true
         ·subst a7
          rw [if_pos rfl] at H; have H' := aM H; clear H; have cA := M.out; have cC := O.out; obtain ⟨b0, b1, b2, b3, b4, b5⟩ := bG3 A; have aE : 0 ≤ (F : Int) := oT aO; have aF : F < (I.length : Int) := oT aO; obtain ⟨cD, cl, cm, bn, ax, ay, az⟩ := at_L3 bc.out F aE aF; cases bn; replace ax := cX HB ax; have an := aM az; have ao := aM ay; clear az ay; replace aE := eq_true aE; replace aF := eq_true aF; obtain ⟨b6, b7, b8, b9, ca, cb⟩ := bG3 P; have aG : 0 ≤ (F : Int) := oT aO; have aH : F < (L.length : Int) := oT aO; obtain ⟨cE, cn, co, bo, aA, aB, aC⟩ := at_L3 bd.out F aG aH; cases bo; replace aA := cX HB aA; have ap := aM aC; have aq := aM aB; clear aC aB; replace aG := eq_true aG; replace aH := eq_true aH
          go_wp2_with (first | (go_at_call 34; (with_reducible refine (tabardref12_ints.calls k2 _ _ (rd_L3 I F) _ _ (rd_L3 L F) true _ ?s1 ao.out ?s3 aq.out bb.out).mono ?_); (case s1 => exact cB an HB); (case s3 => exact cB ap HB); rintro e w' ⟨rfl, ⟨nd, rfl⟩⟩; (try exact dN)))
          repeat (go_quiet (first | (go_at_call 34; (with_reducible refine (tabardref12_ints.calls k2 _ _ (rd_L3 I F) _ _ (rd_L3 L F) true _ ?s1 ao.out ?s3 aq.out bb.out).mono ?_); (case s1 => exact cB an HB); (case s3 => exact cB ap HB); rintro e w' ⟨rfl, ⟨nd, rfl⟩⟩; (try exact dN))); try go_wp2_with (first | (go_at_call 34; (with_reducible refine (tabardref12_ints.calls k2 _ _ (rd_L3 I F) _ _ (rd_L3 L F) true _ ?s1 ao.out ?s3 aq.out bb.out).mono ?_); (case s1 => exact cB an HB); (case s3 => exact cB ap HB); rintro e w' ⟨rfl, ⟨nd, rfl⟩⟩; (try exact dN))))
          go_roundg k2
          case measure => have := HJ2.out; have := HK2.out; omega
          case rel => exact ⟨(wrap64 (F + 1)), sI, H', ⟨by have := HJ2.out; have := HK2.out; omega⟩, kQ A, kQ P, bT2 HB z B⟩
         ·replace a7 := Bool.eq_false_iff.mpr a7; subst a7
          rw [if_neg nF] at H; exact absurd H (by simp)
        ·exact nX a6 H
       ·exact nX aZ H
      ·rw [if_neg aw] at H; have bg := decide_eq_false aw; clear aw; obtain rfl := Option.some.inj H; have cF := M.out; have cG := O.out; obtain ⟨cc, cd, ce, cf, cg, ch⟩ := bG3 A
       go_wp2
       repeat (go_quiet (fail); try go_wp2)
       go_ret
       exact ⟨eW, bS2 HB.out z.out B.out⟩

end Go.Proofs.Ythgoonohpfoagaa.X
