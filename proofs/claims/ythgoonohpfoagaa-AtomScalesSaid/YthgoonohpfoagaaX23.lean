/- What the functions of this seat compute, and that the program's calls come to just that: written by this session's own program out of the translation; no condition. -/
import Derived.Test.YthgoonohpfoagaaX0
import Derived.Test.YthgoonohpfoagaaX17
import Derived.Test.YthgoonohpfoagaaX22
namespace Go.Proofs.Ythgoonohpfoagaa.X
open Go.RowKit Go.Proofs.YthgoonohpfoagaaW.PrintWords Go.Proofs.YthgoonohpfoagaaW.PrintLast Go.Proofs.YthgoonohpfoagaaW.PrintMore
attribute [local go_sem] max2_int min2_int max_two min_two max_three min_three max_four min_four
set_option linter.unusedVariables false
set_option linter.unusedSimpArgs false
set_option maxHeartbeats 8000000
set_option maxRecDepth 100000

/-! ### tabardref12_Right: function 16 -/
mutual
def tabardref12_Right.j0 : Nat → Int → Bool → List ByteArray → List Bool → List (List Int) → Option (Bool)
 | 0, _, _, _, _, _ => none
 | k + 1, x3, x20, x251000, x251001, x251002 => if x20 = true then (none) else (tabardref12_Right.l0 k x3 0 x251000 x251001 x251002)
def tabardref12_Right.l0 : Nat → Int → Int → List ByteArray → List Bool → List (List Int) → Option (Bool)
 | 0, _, _, _, _, _ => none
 | k + 1, x3, x4, x251000, x251001, x251002 => if x4 < x3 then (if 0 ≤ x4 then (if x4 < (x251002.length : Int) then ((tabardref12_Letters.f k (x251000.length : Int)).bind fun t253 => (if ((rd_L3 x251002 x4).length : Int) = t253 then (tabardref12_Right.l1 k x3 x4 0 x251000 x251001 x251002) else (none))) else (none)) else (none)) else (some true)
def tabardref12_Right.l1 : Nat → Int → Int → Int → List ByteArray → List Bool → List (List Int) → Option (Bool)
 | 0, _, _, _, _, _, _ => none
 | k + 1, x3, x4, x5, x251000, x251001, x251002 => if 0 ≤ x4 then (if x4 < (x251002.length : Int) then (if x5 < ((rd_L3 x251002 x4).length : Int) then (if 0 ≤ x5 then (if (rd (rd_L3 x251002 x4) x5) < 0 then (none) else (if (rd (rd_L3 x251002 x4) x5) ≥ x3 then (none) else (tabardref12_Right.l1 k x3 x4 (wrap64 (x5 + 1)) x251000 x251001 x251002))) else (none)) else (tabardref12_Right.l0 k x3 (wrap64 (x4 + 1)) x251000 x251001 x251002)) else (none)) else (none)
end
def tabardref12_Right.f (k : Nat) (l0_0 : List ByteArray) (l0_1 : List Bool) (l0_2 : List (List Int)) : Option (Bool) := (tabardref12_Frame.f k l0_0 (l0_1.length : Int)).bind fun t251 => (if t251 = true then (tabardref12_Right.j0 k (l0_1.length : Int) ((l0_2.length : Int) != (l0_1.length : Int)) l0_0 l0_1 l0_2) else (tabardref12_Right.j0 k (l0_1.length : Int) true l0_0 l0_1 l0_2))
theorem tabardref12_Right.mono_l : ∀ k, (∀ y0 y1 y2 y3 y4, LeO (tabardref12_Right.j0 k y0 y1 y2 y3 y4) (tabardref12_Right.j0 (k + 1) y0 y1 y2 y3 y4)) ∧ (∀ y0 y1 y2 y3 y4, LeO (tabardref12_Right.l0 k y0 y1 y2 y3 y4) (tabardref12_Right.l0 (k + 1) y0 y1 y2 y3 y4)) ∧ (∀ y0 y1 y2 y3 y4 y5, LeO (tabardref12_Right.l1 k y0 y1 y2 y3 y4 y5) (tabardref12_Right.l1 (k + 1) y0 y1 y2 y3 y4 y5))
 | 0 => ⟨fun _ _ _ _ _ r h => by simp [tabardref12_Right.j0] at h, fun _ _ _ _ _ r h => by simp [tabardref12_Right.l0] at h, fun _ _ _ _ _ _ r h => by simp [tabardref12_Right.l1] at h⟩
 | k + 1 => by
  obtain ⟨ih0, ih1, ih2⟩ := tabardref12_Right.mono_l k; refine ⟨?_, ?_, ?_⟩
  ·intro y0 y1 y2 y3 y4
   unfold tabardref12_Right.j0
   repeat' first | (with_reducible first | exact ih0 _ _ _ _ _ | exact ih1 _ _ _ _ _ | exact ih2 _ _ _ _ _ _ | exact tabardref12_Frame.mono _ _ _ | exact tabardref12_Letters.mono _ _ | exact lA | apply lI | refine lB ?_ fun _ => ?_) | exact lN _ | apply lI | refine lB ?_ fun _ => ?_
  ·intro y0 y1 y2 y3 y4
   unfold tabardref12_Right.l0
   repeat' first | (with_reducible first | exact ih0 _ _ _ _ _ | exact ih1 _ _ _ _ _ | exact ih2 _ _ _ _ _ _ | exact tabardref12_Frame.mono _ _ _ | exact tabardref12_Letters.mono _ _ | exact lA | apply lI | refine lB ?_ fun _ => ?_) | exact lN _ | apply lI | refine lB ?_ fun _ => ?_
  ·intro y0 y1 y2 y3 y4 y5
   unfold tabardref12_Right.l1
   repeat' first | (with_reducible first | exact ih0 _ _ _ _ _ | exact ih1 _ _ _ _ _ | exact ih2 _ _ _ _ _ _ | exact tabardref12_Frame.mono _ _ _ | exact tabardref12_Letters.mono _ _ | exact lA | apply lI | refine lB ?_ fun _ => ?_) | exact lN _ | apply lI | refine lB ?_ fun _ => ?_
theorem tabardref12_Right.mono : ∀ a0 a1 a2 k, LeO (tabardref12_Right.f k a0 a1 a2) (tabardref12_Right.f (k + 1) a0 a1 a2) := by
 intro a0 a1 a2 k; obtain ⟨ih0, ih1, ih2⟩ := tabardref12_Right.mono_l k
 unfold tabardref12_Right.f
 repeat' first | (with_reducible first | exact ih0 _ _ _ _ _ | exact ih1 _ _ _ _ _ | exact ih2 _ _ _ _ _ _ | exact tabardref12_Frame.mono _ _ _ | exact tabardref12_Letters.mono _ _ | exact lA | apply lI | refine lB ?_ fun _ => ?_) | exact lN _ | apply lI | refine lB ?_ fun _ => ?_
theorem tabardref12_Right.calls (k : Nat) (M : Option Addr) (O : Nat) (E : List ByteArray) (P : Option Addr) (Q : Nat) (D : List Bool) (W : Option Addr) (R : Nat) (B : List (List Int)) (r : Bool) (w : World) (aU : Kd.C Kd.string w M E.length E) (aV : E.length ≤ O) (aW : Kd.C Kd.bool w P D.length D) (aX : D.length ≤ Q) (aY : Kd.C (Kd.slice 3 (Kd.int .i64)) w W B.length B) (aZ : B.length ≤ R) (h : tabardref12_Right.f k E D B = some r) :
  Calls Try.prog 16 #[.agg #[.slice M E.length O, .slice P D.length Q, .slice W B.length R]] w fun e w' => e = .returned (.bool r) ∧ Below w.heap.size w w' := by
 have hu31 := Try.underlying31; have U := aM aU; have V := aM aV; clear aU aV; have ck := aM aW; have cl := aM aX; clear aW aX; have aa := aM aY; have cm := aM aZ; clear aY aZ; have HB := aM (Below.refl w.heap.size w); rw [tabardref12_Right.f] at h; have H := h; clear h; have bi := aM H; clear H
 go_enter Try.func16, Try.ntmps16
 go_upto_region 2 with (first | ((with_reducible refine gate_dst (N := 1) rfl ?_); (try (refine gate_guard (by rfl) ?_; dsimp only)); refine be_ (cs := #[.slice M E.length O, .slice P D.length Q, .slice W B.length R]) (t := 31) ?_; intro ab hg w3 hbox hb; have z := aM (hbox); have a3 := gE hg (bP0 HB); have F := gE hg (bP0 HB); replace HB := hS0 HB hb; clear hb hbox hg; obtain ⟨av, aw, ax, ay, az, aA⟩ := bG3 z))
 repeat (go_quiet (first | ((with_reducible refine gate_dst (N := 1) rfl ?_); (try (refine gate_guard (by rfl) ?_; dsimp only)); refine be_ (cs := #[.slice M E.length O, .slice P D.length Q, .slice W B.length R]) (t := 31) ?_; intro ab hg w3 hbox hb; have z := aM (hbox); have a3 := gE hg (bP0 HB); have F := gE hg (bP0 HB); replace HB := hS0 HB hb; clear hb hbox hg; obtain ⟨av, aw, ax, ay, az, aA⟩ := bG3 z)); go_upto_region 2 with (first | ((with_reducible refine gate_dst (N := 1) rfl ?_); (try (refine gate_guard (by rfl) ?_; dsimp only)); refine be_ (cs := #[.slice M E.length O, .slice P D.length Q, .slice W B.length R]) (t := 31) ?_; intro ab hg w3 hbox hb; have z := aM (hbox); have a3 := gE hg (bP0 HB); have F := gE hg (bP0 HB); replace HB := hS0 HB hb; clear hb hbox hg; obtain ⟨av, aw, ax, ay, az, aA⟩ := bG3 z)))
 (try simp only [Act.put, sA, sB, sC])
 go_cut [20] (fun b6 wc => ∃ (kq : Nat) (af : Bool), b6 = .bool af ∧ Aside0 (tabardref12_Right.j0 kq (D.length : Int) af E D B = some r) ∧ Aside0 (kq ≤ k) ∧ Aside0 (wc.heap[ab]? = some (.cells #[(.slice M E.length O), (.slice P D.length Q), (.slice W B.length R)] 31 (0, 0))) ∧ BA w wc)
 case first =>
  have H := bi.out; clear bi; replace H := Option.bind_eq_some_iff.mp H; obtain ⟨bw, bt, H⟩ := H; have A5 := aM bt; clear bt
  by_cases c6 : bw = true
  ·subst c6
   rw [if_pos rfl] at H; have H' := aM H; clear H; obtain ⟨b7, b8, b9, ca, cb, cc⟩ := bG3 z
   go_wp2_with (first | (go_at_call 35; (with_reducible refine (tabardref12_Frame.calls k _ _ E (D.length : Int) true _ ?s1 V.out A5.out).mono ?_); (case s1 => exact cB U HB); rintro e w8 ⟨rfl, hb⟩; replace z := kB z hb; replace HB := hS1 HB F hb; (try clear hb); obtain ⟨aB, aC, aD, aE, aF, aG⟩ := bG3 z))
   repeat (go_quiet (first | (go_at_call 35; (with_reducible refine (tabardref12_Frame.calls k _ _ E (D.length : Int) true _ ?s1 V.out A5.out).mono ?_); (case s1 => exact cB U HB); rintro e w8 ⟨rfl, hb⟩; replace z := kB z hb; replace HB := hS1 HB F hb; (try clear hb); obtain ⟨aB, aC, aD, aE, aF, aG⟩ := bG3 z)); try go_wp2_with (first | (go_at_call 35; (with_reducible refine (tabardref12_Frame.calls k _ _ E (D.length : Int) true _ ?s1 V.out A5.out).mono ?_); (case s1 => exact cB U HB); rintro e w8 ⟨rfl, hb⟩; replace z := kB z hb; replace HB := hS1 HB F hb; (try clear hb); obtain ⟨aB, aC, aD, aE, aF, aG⟩ := bG3 z)))
   go_meet
   case rel => exact ⟨_, (((B.length : Int) != (D.length : Int))), sI, H', ⟨by first | omega | exact Nat.le_refl _⟩, kQ z, bT1 HB F⟩
  ·replace c6 := Bool.eq_false_iff.mpr c6; subst c6
   rw [if_neg nF] at H; have H' := aM H; clear H; obtain ⟨bD, bE, bF, bG, bH, bI⟩ := bG3 z
   go_wp2_with (first | (go_at_call 35; (with_reducible refine (tabardref12_Frame.calls k _ _ E (D.length : Int) false _ ?s1 V.out A5.out).mono ?_); (case s1 => exact cB U HB); rintro e bu ⟨rfl, hb⟩; replace z := kB z hb; replace HB := hS1 HB F hb; (try clear hb)))
   repeat (go_quiet (first | (go_at_call 35; (with_reducible refine (tabardref12_Frame.calls k _ _ E (D.length : Int) false _ ?s1 V.out A5.out).mono ?_); (case s1 => exact cB U HB); rintro e bu ⟨rfl, hb⟩; replace z := kB z hb; replace HB := hS1 HB F hb; (try clear hb))); try go_wp2_with (first | (go_at_call 35; (with_reducible refine (tabardref12_Frame.calls k _ _ E (D.length : Int) false _ ?s1 V.out A5.out).mono ?_); (case s1 => exact cB U HB); rintro e bu ⟨rfl, hb⟩; replace z := kB z hb; replace HB := hS1 HB F hb; (try clear hb))))
   go_meet
   case rel => exact ⟨_, (true), sI, H', ⟨by first | omega | exact Nat.le_refl _⟩, kQ z, bT1 HB F⟩
 case rest =>
  clear bi
  obtain ⟨kq, af, rfl, HA, HJ1, z, HB⟩ := hcut; cases kq with
  | zero => exact absurd HA.out (by simp [tabardref12_Right.j0])
  | succ bv =>
   have H := HA.out; clear HA; simp only [tabardref12_Right.j0] at H
   by_cases a4 : af = true
   ·subst a4
    rw [if_pos rfl] at H; exact absurd H (by simp)
   ·replace a4 := Bool.eq_false_iff.mpr a4; subst a4
    rw [if_neg nF] at H; have H' := aM H; clear H
    go_wp2
    repeat (go_quiet (fail); try go_wp2)
    go_loopg [4] bv (fun kq v4 w' => ∃ (A : Int), v4 = .int .i64 A ∧ Aside0 (tabardref12_Right.l0 kq (D.length : Int) A E D B = some r) ∧ Aside0 (kq ≤ bv) ∧ Aside0 (w'.heap[ab]? = some (.cells #[(.slice M E.length O), (.slice P D.length Q), (.slice W B.length R)] 31 (0, 0))) ∧ BA w w')
    case atStart => exact ⟨(0), sI, H', ⟨Nat.le_refl _⟩, kQ z, bT1 HB F⟩
    case round =>
     clear H'
     obtain ⟨A, rfl, HA, HK2, z, HB⟩ := hrel; cases gk with
     | zero => exact absurd HA.out (by simp [tabardref12_Right.l0])
     | succ k2 =>
      have H := HA.out; clear HA; simp only [tabardref12_Right.l0] at H
      by_cases ag : A < (D.length : Int)
      ·rw [if_pos ag] at H; have bo := dT ag; clear ag
       by_cases a5 : 0 ≤ A
       ·rw [if_pos a5] at H; have cn := dT a5; clear a5
        by_cases a6 : A < (B.length : Int)
        ·rw [if_pos a6] at H; have co := dT a6; clear a6; replace H := Option.bind_eq_some_iff.mp H; obtain ⟨ar, bj, H⟩ := H; have bk := aM bj; clear bj
         by_cases a7 : ((rd_L3 B A).length : Int) = ar
         ·rw [if_pos a7] at H; obtain ⟨cp, cq⟩ := bq a7; clear a7; have H' := aM H; clear H; obtain ⟨bJ, bK, bL, bM, bN, bO⟩ := bG3 z; have aH : 0 ≤ (A : Int) := oT aO; have aI : A < (B.length : Int) := oT aO; obtain ⟨ac, ce, cf, bx, ah, ai, aj⟩ := at_L3 aa.out A aH aI; cases bx; replace ah := cX HB ah; have bP := aM aj; have bQ := aM ai; clear aj ai; replace aH := eq_true aH; replace aI := eq_true aI
          go_wp2_with (first | (go_at_call 29; (with_reducible refine (tabardref12_Letters.calls k2 (E.length : Int) ar _ bk.out).mono ?_); rintro e w' ⟨rfl, ⟨nd, rfl⟩⟩; (try exact dN)))
          repeat (go_quiet (first | (go_at_call 29; (with_reducible refine (tabardref12_Letters.calls k2 (E.length : Int) ar _ bk.out).mono ?_); rintro e w' ⟨rfl, ⟨nd, rfl⟩⟩; (try exact dN))); try go_wp2_with (first | (go_at_call 29; (with_reducible refine (tabardref12_Letters.calls k2 (E.length : Int) ar _ bk.out).mono ?_); rintro e w' ⟨rfl, ⟨nd, rfl⟩⟩; (try exact dN))))
          go_loopg [5] k2 (fun kq v5 w' => ∃ (G : Int), v5 = .int .i64 G ∧ Aside0 (tabardref12_Right.l1 kq (D.length : Int) A G E D B = some r) ∧ Aside0 (kq ≤ k2) ∧ Aside0 (w'.heap[ab]? = some (.cells #[(.slice M E.length O), (.slice P D.length Q), (.slice (some ac) B.length R)] 31 (0, 0))) ∧ BA w w')
          case atStart => exact ⟨(0), sI, H', ⟨Nat.le_refl _⟩, kQ z, bT1 HB F⟩
          case round =>
           clear H'
           obtain ⟨G, rfl, HA, HK3, z, HB⟩ := hrel; cases gk with
           | zero => exact absurd HA.out (by simp [tabardref12_Right.l1])
           | succ k3 =>
            have H := HA.out; clear HA; simp only [tabardref12_Right.l1] at H
            by_cases a8 : 0 ≤ A
            ·rw [if_pos a8] at H; have cr := dT a8; clear a8
             by_cases a9 : A < (B.length : Int)
             ·rw [if_pos a9] at H; have ct := dT a9; clear a9
              by_cases ak : G < ((rd_L3 B A).length : Int)
              ·rw [if_pos ak] at H; have bp := dT ak; clear ak
               by_cases ba : 0 ≤ G
               ·rw [if_pos ba] at H; have cu := dT ba; clear ba
                by_cases bb : (rd (rd_L3 B A) G) < 0
                ·rw [if_pos bb] at H; exact absurd H (by simp)
                ·rw [if_neg bb] at H; have cv := decide_eq_false bb; clear bb
                 by_cases bc : (rd (rd_L3 B A) G) ≥ (D.length : Int)
                 ·rw [if_pos bc] at H; exact absurd H (by simp)
                 ·rw [if_neg bc] at H; have cw := decide_eq_false bc; clear bc; have H' := aM H; clear H; obtain ⟨bR, bS, bT, bU, bV, bW⟩ := bG3 z; have Y : 0 ≤ (A : Int) := oT aO; have Z : A < (B.length : Int) := oT aO; obtain ⟨au, bl, bm, aJ, I, J, L⟩ := at_L3 aa.out A Y Z; have he_ : ac = au := (by injection aJ); subst he_; replace I := cX HB I; have be := aM L; have bf := aM J; clear L J; replace Y := eq_true Y; replace Z := eq_true Z; have aK : 0 ≤ (A : Int) := oT aO; have aL : A < (B.length : Int) := oT aO; obtain ⟨br, cg, ch, bz, ad, al, am⟩ := at_L3 aa.out A aK aL; have he_ : ac = br := (by injection bz); subst he_; replace ad := cX HB ad; have bg := aM am; have bX := aM al; clear am al; replace aK := eq_true aK; replace aL := eq_true aL; have ea_ := Option.some.inj (I.symm.trans ad)
                  injection ea_ with ea_ en_ ec_
                  subst ea_; subst ec_; clear en_; have aN : 0 ≤ (G : Int) := oT aO; have aP : G < ((rd_L3 B A).length : Int) := oT aO; obtain ⟨cx, bA, an⟩ := Kd.at_int bg.out G aN aP; cases bA; replace an := cX HB an; replace aN := eq_true aN; replace aP := eq_true aP; have aQ : 0 ≤ (A : Int) := oT aO; have aR : A < (B.length : Int) := oT aO; obtain ⟨bs, ci, cj, bB, ae, ao, ap⟩ := at_L3 aa.out A aQ aR; have he_ : ac = bs := (by injection bB); subst he_; replace ae := cX HB ae; have bh := aM ap; have bY := aM ao; clear ap ao; replace aQ := eq_true aQ; replace aR := eq_true aR; have ea_ := Option.some.inj (I.symm.trans ae)
                  injection ea_ with ea_ en_ ec_
                  subst ea_; subst ec_; clear en_; have aS : 0 ≤ (G : Int) := oT aO; have aT : G < ((rd_L3 B A).length : Int) := oT aO; obtain ⟨cy, bC, aq⟩ := Kd.at_int bh.out G aS aT; cases bC; replace aq := cX HB aq; replace aS := eq_true aS; replace aT := eq_true aT
                  go_wp2
                  repeat (go_quiet (fail); try go_wp2)
                  go_roundg k3
                  case measure => have := HJ1.out; have := HK2.out; have := HK3.out; omega
                  case rel => exact ⟨(wrap64 (G + 1)), sI, H', ⟨by have := HJ1.out; have := HK2.out; have := HK3.out; omega⟩, kQ z, bT1 HB F⟩
               ·exact nX ba H
              ·rw [if_neg ak] at H; have bp := decide_eq_false ak; clear ak; have H' := aM H; clear H; obtain ⟨bZ, b0, b1, b2, b3, b4⟩ := bG3 z; have Y : 0 ≤ (A : Int) := oT aO; have Z : A < (B.length : Int) := oT aO; obtain ⟨au, bl, bm, aJ, I, J, L⟩ := at_L3 aa.out A Y Z; have he_ : ac = au := (by injection aJ); subst he_; replace I := cX HB I; have be := aM L; have bf := aM J; clear L J; replace Y := eq_true Y; replace Z := eq_true Z
               go_wp2
               repeat (go_quiet (fail); try go_wp2)
               go_roundg k3
               case measure => have := HJ1.out; have := HK2.out; have := HK3.out; omega
               case rel => exact ⟨(wrap64 (A + 1)), sI, H', ⟨by have := HJ1.out; have := HK2.out; have := HK3.out; omega⟩, kQ z, bT1 HB F⟩
             ·exact nX a9 H
            ·exact nX a8 H
         ·exact nX a7 H
        ·exact nX a6 H
       ·exact nX a5 H
      ·rw [if_neg ag] at H; have bo := decide_eq_false ag; clear ag; obtain rfl := Option.some.inj H
       go_wp2
       repeat (go_quiet (fail); try go_wp2)
       go_ret
       exact ⟨eW, bS1 HB.out F.out⟩

end Go.Proofs.Ythgoonohpfoagaa.X
