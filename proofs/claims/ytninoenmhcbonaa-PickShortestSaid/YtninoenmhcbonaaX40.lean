/- What the functions of this seat compute, and that the program's calls come to just that: written by this session's own program out of the translation; no condition. -/
import Derived.Test.YtninoenmhcbonaaX0
namespace Go.Proofs.Ytninoenmhcbonaa.X
open Go.RowKit Go.Proofs.YtninoenmhcbonaaW.PrintWords Go.Proofs.YtninoenmhcbonaaW.PrintLast Go.Proofs.YtninoenmhcbonaaW.PrintMore
attribute [local go_sem] max2_int min2_int max_two min_two max_three min_three max_four min_four
set_option linter.unusedVariables false
set_option linter.unusedSimpArgs false
set_option maxHeartbeats 8000000
set_option maxRecDepth 100000

/-! ### tabardref19_behind: function 37 -/
mutual
def tabardref19_behind.l0 : Nat → List Bool → List Bool → Int → List ByteArray → List Bool → List (List Int) → Option (List Bool)
 | 0, _, _, _, _, _, _ => none
 | k + 1, x1, x5, x6, x534000, x534001, x534002 => if x6 < (x1.length : Int) then (tabardref19_behind.l1 k x1 x5 x6 0 x534000 x534001 x534002) else (some x5)
def tabardref19_behind.l1 : Nat → List Bool → List Bool → Int → Int → List ByteArray → List Bool → List (List Int) → Option (List Bool)
 | 0, _, _, _, _, _, _, _ => none
 | k + 1, x1, x5, x6, x7, x534000, x534001, x534002 => if 0 ≤ x6 then (if x6 < (x534002.length : Int) then (if x7 < ((rd_L4 x534002 x6).length : Int) then (if x6 < (x5.length : Int) then (if rdOf false x5 x6 = true then (tabardref19_behind.l1 k x1 (x5.set (x6 : Int).toNat true) x6 (wrap64 (x7 + 1)) x534000 x534001 x534002) else (if 0 ≤ x7 then (if 0 ≤ (rd (rd_L4 x534002 x6) x7) then (if (rd (rd_L4 x534002 x6) x7) < (x1.length : Int) then (tabardref19_behind.l1 k x1 (x5.set (x6 : Int).toNat (rdOf false x1 (rd (rd_L4 x534002 x6) x7))) x6 (wrap64 (x7 + 1)) x534000 x534001 x534002) else (none)) else (none)) else (none))) else (none)) else (tabardref19_behind.l0 k x1 x5 (wrap64 (x6 + 1)) x534000 x534001 x534002)) else (none)) else (none)
end
def tabardref19_behind.f (k : Nat) (l0_0 : List ByteArray) (l0_1 : List Bool) (l0_2 : List (List Int)) (l1 : List Bool) : Option (List Bool) := if 0 ≤ (l1.length : Int) then (if ((l1.length : Int) : Int).toNat ≤ 281474976710656 then (tabardref19_behind.l0 k l1 (List.replicate ((l1.length : Int) : Int).toNat false) 0 l0_0 l0_1 l0_2) else (none)) else (none)
theorem tabardref19_behind.mono_l : ∀ k, (∀ y0 y1 y2 y3 y4 y5, LeO (tabardref19_behind.l0 k y0 y1 y2 y3 y4 y5) (tabardref19_behind.l0 (k + 1) y0 y1 y2 y3 y4 y5)) ∧ (∀ y0 y1 y2 y3 y4 y5 y6, LeO (tabardref19_behind.l1 k y0 y1 y2 y3 y4 y5 y6) (tabardref19_behind.l1 (k + 1) y0 y1 y2 y3 y4 y5 y6))
 | 0 => ⟨fun _ _ _ _ _ _ r h => by simp [tabardref19_behind.l0] at h, fun _ _ _ _ _ _ _ r h => by simp [tabardref19_behind.l1] at h⟩
 | k + 1 => by
  obtain ⟨ih0, ih1⟩ := tabardref19_behind.mono_l k; refine ⟨?_, ?_⟩
  ·intro y0 y1 y2 y3 y4 y5
   unfold tabardref19_behind.l0
   repeat' first | (with_reducible first | exact ih0 _ _ _ _ _ _ | exact ih1 _ _ _ _ _ _ _ | exact lA | apply lI | refine lB ?_ fun _ => ?_) | exact lN _ | apply lI | refine lB ?_ fun _ => ?_
  ·intro y0 y1 y2 y3 y4 y5 y6
   unfold tabardref19_behind.l1
   repeat' first | (with_reducible first | exact ih0 _ _ _ _ _ _ | exact ih1 _ _ _ _ _ _ _ | exact lA | apply lI | refine lB ?_ fun _ => ?_) | exact lN _ | apply lI | refine lB ?_ fun _ => ?_
theorem tabardref19_behind.mono : ∀ a0 a1 a2 a3 k, LeO (tabardref19_behind.f k a0 a1 a2 a3) (tabardref19_behind.f (k + 1) a0 a1 a2 a3) := by
 intro a0 a1 a2 a3 k; obtain ⟨ih0, ih1⟩ := tabardref19_behind.mono_l k
 unfold tabardref19_behind.f
 repeat' first | (with_reducible first | exact ih0 _ _ _ _ _ _ | exact ih1 _ _ _ _ _ _ _ | exact lA | apply lI | refine lB ?_ fun _ => ?_) | exact lN _ | apply lI | refine lB ?_ fun _ => ?_
theorem tabardref19_behind.calls (k : Nat) (af : Option Addr) (ag : Nat) (P : List ByteArray) (ah : Option Addr) (ai : Nat) (Q : List Bool) (aj : Option Addr) (ak : Nat) (A : List (List Int)) (A1 : Option Addr) (c1 : Nat) (V : List Bool) (r : List Bool) (w : World) (aG : Kd.C Kd.string w af P.length P) (aH : P.length ≤ ag) (aI : Kd.C Kd.bool w ah Q.length Q) (aJ : Q.length ≤ ai) (aK : Kd.C (Kd.slice 3 (Kd.int .i64)) w aj A.length A) (aL : A.length ≤ ak) (bp : Kd.C Kd.bool w A1 V.length V) (bq : V.length ≤ c1) (h : tabardref19_behind.f k P Q A V = some r) :
  Calls Try.prog 37 #[.agg #[.slice af P.length ag, .slice ah Q.length ai, .slice aj A.length ak], .slice A1 V.length c1] w fun e w' => ∃ br : Value, e = .returned (br) ∧ Kd.R Kd.bool 4 w' w.heap.size (fun _ => True) br r ∧ Below w.heap.size w w' := by
 have hu45 := Try.underlying45; have b3 := aM aG; have b4 := aM aH; clear aG aH; have b5 := aM aI; have b6 := aM aJ; clear aI aJ; have ab := aM aK; have b7 := aM aL; clear aK aL; have bY := aM bp; have cr := aM bq; clear bp bq; have HB := aM (Below.refl w.heap.size w); rw [tabardref19_behind.f] at h; have H := h; clear h
 by_cases c3 : 0 ≤ (V.length : Int)
 ·rw [if_pos c3] at H; have cg := eq_true c3; have ch := dT c3; clear c3
  by_cases c4 : ((V.length : Int) : Int).toNat ≤ 281474976710656
  ·rw [if_pos c4] at H; have ci := eq_true c4; have cj := dT c4; clear c4; obtain ⟨bs, ac⟩ : ∃ y_ : List Bool, y_ = (List.replicate ((V.length : Int) : Int).toNat false) := ⟨_, rfl⟩
   first | replace H := rI ac H | rw [← ac] at H
   have bh := aM ac; clear ac; have H' := aM H; clear H
   go_enter Try.func37, Try.ntmps37
   go_wp2_with (first | ((with_reducible refine gate_dst (N := 2) rfl ?_); refine be_ (cs := #[.slice af P.length ag, .slice ah Q.length ai, .slice aj A.length ak]) (t := 45) ?_; intro aN hg w5 hbox hb; have B := aM (hbox); have b8 := gE hg (bP0 HB); have O := gE hg (bP0 HB); replace HB := hS0 HB hb; clear hb hbox hg) | ((with_reducible refine gate_dst (N := 10) rfl ?_); refine Kd.R_make Kd.bool _ 4 rfl (N := 10) rfl 23 _ _ rfl (V.length : Int) rfl rfl Try.underlying23 (.bool false) 1 info4 rfl (by decide) (by omega) false (ok := fun _ => True) (okp := fun _ => True) rfl (fun _ hk => hk) trivial (oT aO) (Nat.le_trans (Nat.mul_le_mul_right _ (oT aO : (V.length : Int).toNat ≤ 281474976710656)) (by omega)) (Below.refl _ _) (Nat.le_refl _) ?_; intro a4 w6 aP hb hg_ hnew_; clear hg_ hnew_; replace aP := nW bh aP; have bi := rW aP (bP1 HB O); replace B := kB B hb; replace HB := hS1 HB O hb; clear hb aP))
   go_loopg [6] k (fun kq v6 w' => ∃ (au : List Bool) (z : Int), v6 = .int .i64 z ∧ Aside0 (tabardref19_behind.l0 kq V au z P Q A = some r) ∧ Aside0 (kq ≤ k) ∧ RA Kd.bool 4 w' w a4 au ∧ Aside0 (w'.heap[aN]? = some (.cells #[(.slice af P.length ag), (.slice ah Q.length ai), (.slice aj A.length ak)] 45 (0, 0))) ∧ BA w w')
   case atStart => exact ⟨(bs), (0), sI, H', ⟨Nat.le_refl _⟩, rQ bi, kQ B, bT1 HB O⟩
   case round =>
    clear H'
    obtain ⟨au, z, rfl, HA, HK1, D, B, HB⟩ := hrel; cases gk with
    | zero => exact absurd HA.out (by simp [tabardref19_behind.l0])
    | succ k1 =>
     have H := HA.out; clear HA; simp only [tabardref19_behind.l0] at H
     by_cases c8 : z < (V.length : Int)
     ·rw [if_pos c8] at H; have bt := dT c8; clear c8; have H' := aM H; clear H
      go_wp2
      go_loopg [7] k1 (fun kq v7 w' => ∃ (J : List Bool) (E : Int), v7 = .int .i64 E ∧ Aside0 (tabardref19_behind.l1 kq V J z E P Q A = some r) ∧ Aside0 (kq ≤ k1) ∧ RA Kd.bool 4 w' w a4 J ∧ Aside0 (w'.heap[aN]? = some (.cells #[(.slice af P.length ag), (.slice ah Q.length ai), (.slice aj A.length ak)] 45 (0, 0))) ∧ BA w w')
      case atStart => exact ⟨(au), (0), sI, H', ⟨Nat.le_refl _⟩, rQ D, kQ B, bT1 HB O⟩
      case round =>
       clear H'
       obtain ⟨J, E, rfl, HA, HK2, D, B, HB⟩ := hrel; cases gk with
       | zero => exact absurd HA.out (by simp [tabardref19_behind.l1])
       | succ k2 =>
        have H := HA.out; clear HA; simp only [tabardref19_behind.l1] at H
        by_cases c9 : 0 ≤ z
        ·rw [if_pos c9] at H; have cm := dT c9; clear c9
         by_cases aQ : z < (A.length : Int)
         ·rw [if_pos aQ] at H; have b9 := dT aQ; clear aQ
          by_cases am : E < ((rd_L4 A z).length : Int)
          ·rw [if_pos am] at H; have bk := dT am; clear am
           by_cases aR : z < (J.length : Int)
           ·rw [if_pos aR] at H; have ca := dT aR; clear aR; obtain ⟨bu, av⟩ : ∃ b_ : Bool, b_ = (rdOf false J z) := ⟨_, rfl⟩
            rw [← av] at H
            have Nbq13 := aM av; clear av
            by_cases aS : bu = true
            ·subst aS
             rw [if_pos rfl] at H; obtain ⟨a5, ad⟩ : ∃ y_ : List Bool, y_ = (J.set (z : Int).toNat true) := ⟨_, rfl⟩
             first | replace H := rI ad H | rw [← ad] at H
             have bl := aM ad; clear ad; have H' := aM H; clear H; obtain ⟨bD, bE, bF, bG, bH, bI⟩ := bG3 B; have L : 0 ≤ (z : Int) := oT aO; have M : z < (A.length : Int) := oT aO; obtain ⟨aw, ax, ay, al, F, G, I⟩ := at_L4 ab.out z L M; cases al; replace F := cX HB F; have an := aM I; have ao := aM G; clear I G; replace L := eq_true L; replace M := eq_true M; obtain ⟨cn, bv, bw⟩ := sL D; subst bw; have W : 0 ≤ (z : Int) := oT aO; have Y : z < (J.length : Int) := oT aO; obtain ⟨bm, az, U⟩ := Kd.at_bool (rR D).2.2 z W Y
             (try rw [← Nbq13.out] at U)
             cases az; replace W := eq_true W; replace Y := eq_true Y; have a6 : 0 ≤ (z : Int) := oT aO; have a7 : (z : Int) < ((J.length : Int) : Int) := oT aO; obtain ⟨go15, co, a8, a9, gl15, cl15, HG15⟩ := Kd.R_form D.out (by omega)
             (first | cases a8 | (injection a8 with ea_ en_ ec_; (first | subst ea_ | (injection ea_ with ea_; subst ea_)); subst ec_; clear en_))
             have GB15 := aM a9; have GG15 := aM HG15; clear a9 gl15 HG15
             (first | simp only [add_plain] at U | skip)
             obtain ⟨bZ, hf15_0⟩ := Kd.R_celln false D.out (z : Int) a6 a7; replace a6 := eq_true a6; replace a7 := eq_true a7; have HP18 := Kd.R_putg D.out (z : Int) true
             go_wp2_with (first | ((with_reducible refine gate_store (t := 4) (p := 46) rfl ?_); refine store_event (t := 4) (p := 46) (v := ?vo_w19) (w1 := (wr.setCell ⟨go15, (z : Int).toNat, none⟩ (.bool true))) ?hg ?ho ?hn ?hr ?_; (case ho => rfl); (case hg => rfl); (case hn => rfl); (case hr => first | (go_simp; done) | (go_simp; rfl)); intro ba hw; have hg : wr.grownBy ba (some go15) := (by rw [hw]; exact HP18.2); have hp_ : Kd.R Kd.bool 4 ba w.heap.size (fun _ => True) (.slice (some ⟨go15, 0, none⟩) J.length bv) a5 := (by rw [hw, bl.out]; exact HP18.1); clear HP18; replace B := kG B hg D; replace D := aM (hp_); replace HB := aM ((by rw [hw]; exact below_set (HB.out) GB15.out : Below w.heap.size w ba)); clear hg hw hp_))
             go_roundg k2
             case measure => have := HK1.out; have := HK2.out; omega
             case rel => exact ⟨(a5), (wrap64 (E + 1)), sI, H', ⟨by have := HK1.out; have := HK2.out; omega⟩, rQ D, kQ B, bT1 HB O⟩
            ·replace aS := Bool.eq_false_iff.mpr aS; subst aS
             rw [if_neg nF] at H
             by_cases aT : 0 ≤ E
             ·rw [if_pos aT] at H; have cb := dT aT; clear aT
              by_cases aU : 0 ≤ (rd (rd_L4 A z) E)
              ·rw [if_pos aU] at H; have cc := dT aU; clear aU
               by_cases aV : (rd (rd_L4 A z) E) < (V.length : Int)
               ·rw [if_pos aV] at H; have cd := dT aV; clear aV; obtain ⟨bb, ae⟩ : ∃ y_ : List Bool, y_ = (J.set (z : Int).toNat (rdOf false V (rd (rd_L4 A z) E))) := ⟨_, rfl⟩
                first | replace H := rI ae H | rw [← ae] at H
                have bn := aM ae; clear ae; have H' := aM H; clear H; obtain ⟨bJ, bK, bL, bM, bN, bO⟩ := bG3 B; have L : 0 ≤ (z : Int) := oT aO; have M : z < (A.length : Int) := oT aO; obtain ⟨aw, ax, ay, al, F, G, I⟩ := at_L4 ab.out z L M; cases al; replace F := cX HB F; have an := aM I; have ao := aM G; clear I G; replace L := eq_true L; replace M := eq_true M; obtain ⟨cp, bx, bz⟩ := sL D; subst bz; have W : 0 ≤ (z : Int) := oT aO; have Y : z < (J.length : Int) := oT aO; obtain ⟨bm, az, U⟩ := Kd.at_bool (rR D).2.2 z W Y
                (try rw [← Nbq13.out] at U)
                cases az; replace W := eq_true W; replace Y := eq_true Y; have aA : 0 ≤ (z : Int) := oT aO; have aB : z < (A.length : Int) := oT aO; obtain ⟨bo, b0, b1, bA, Z, ap, aq⟩ := at_L4 ab.out z aA aB; have he_ : aw = bo := (by injection bA); subst he_; replace Z := cX HB Z; have aX := aM aq; have bP := aM ap; clear aq ap; replace aA := eq_true aA; replace aB := eq_true aB; have ea_ := Option.some.inj (F.symm.trans Z)
                injection ea_ with ea_ en_ ec_
                subst ea_; subst ec_; clear en_; have aC : 0 ≤ (E : Int) := oT aO; have aD : E < ((rd_L4 A z).length : Int) := oT aO; obtain ⟨ce, bB, ar⟩ := Kd.at_int aX.out E aC aD; cases bB; replace ar := cX HB ar; replace aC := eq_true aC; replace aD := eq_true aD; have aE : 0 ≤ ((rd (rd_L4 A z) E) : Int) := oT aO; have aF : (rd (rd_L4 A z) E) < (V.length : Int) := oT aO; obtain ⟨cf, bC, aa⟩ := Kd.at_bool bY.out (rd (rd_L4 A z) E) aE aF
                (try rw [← Nbq13.out] at aa)
                cases bC; replace aa := cX HB aa; replace aE := eq_true aE; replace aF := eq_true aF; have bc : 0 ≤ (z : Int) := oT aO; have bd : (z : Int) < ((J.length : Int) : Int) := oT aO; obtain ⟨go23, cq, be, bf, gl23, cl23, HG23⟩ := Kd.R_form D.out (by omega)
                (first | cases be | (injection be with ea_ en_ ec_; (first | subst ea_ | (injection ea_ with ea_; subst ea_)); subst ec_; clear en_))
                have GB23 := aM bf; have GG23 := aM HG23; clear bf gl23 HG23
                (first | simp only [add_plain] at U | skip)
                obtain ⟨b2, hf23_0⟩ := Kd.R_celln false D.out (z : Int) bc bd; replace bc := eq_true bc; replace bd := eq_true bd; have HP26 := Kd.R_putg D.out (z : Int) (rdOf false V (rd (rd_L4 A z) E))
                go_wp2_with (first | ((with_reducible refine gate_store (t := 4) (p := 46) rfl ?_); refine store_event (t := 4) (p := 46) (v := ?vo_w27) (w1 := (wr.setCell ⟨go23, (z : Int).toNat, none⟩ (.bool (rdOf false V (rd (rd_L4 A z) E))))) ?hg ?ho ?hn ?hr ?_; (case ho => rfl); (case hg => rfl); (case hn => rfl); (case hr => first | (go_simp; done) | (go_simp; rfl)); intro bg hw; have hg : wr.grownBy bg (some go23) := (by rw [hw]; exact HP26.2); have hp_ : Kd.R Kd.bool 4 bg w.heap.size (fun _ => True) (.slice (some ⟨go23, 0, none⟩) J.length bx) bb := (by rw [hw, bn.out]; exact HP26.1); clear HP26; replace B := kG B hg D; replace D := aM (hp_); replace HB := aM ((by rw [hw]; exact below_set (HB.out) GB23.out : Below w.heap.size w bg)); clear hg hw hp_))
                go_roundg k2
                case measure => have := HK1.out; have := HK2.out; omega
                case rel => exact ⟨(bb), (wrap64 (E + 1)), sI, H', ⟨by have := HK1.out; have := HK2.out; omega⟩, rQ D, kQ B, bT1 HB O⟩
               ·exact nX aV H
              ·exact nX aU H
             ·exact nX aT H
           ·exact nX aR H
          ·rw [if_neg am] at H; have bk := decide_eq_false am; clear am; have H' := aM H; clear H; obtain ⟨bQ, bR, bS, bT, bU, bV⟩ := bG3 B; have L : 0 ≤ (z : Int) := oT aO; have M : z < (A.length : Int) := oT aO; obtain ⟨aw, ax, ay, al, F, G, I⟩ := at_L4 ab.out z L M; cases al; replace F := cX HB F; have an := aM I; have ao := aM G; clear I G; replace L := eq_true L; replace M := eq_true M
           go_wp2
           go_roundg k2
           case measure => have := HK1.out; have := HK2.out; omega
           case rel => exact ⟨(J), (wrap64 (z + 1)), sI, H', ⟨by have := HK1.out; have := HK2.out; omega⟩, rQ D, kQ B, bT1 HB O⟩
         ·exact nX aQ H
        ·exact nX c9 H
     ·rw [if_neg c8] at H; have bt := decide_eq_false c8; clear c8; obtain rfl := Option.some.inj H
      go_wp2
      go_ret
      exact ⟨_, eW, rO D.out, bS1 HB.out O.out⟩
  ·exact nX c4 H
 ·exact nX c3 H

end Go.Proofs.Ytninoenmhcbonaa.X
namespace Go.Proofs.Ytninoenmhcbonaa.X
open Go.RowKit Go.Proofs.YtninoenmhcbonaaW.PrintWords Go.Proofs.YtninoenmhcbonaaW.PrintLast Go.Proofs.YtninoenmhcbonaaW.PrintMore
attribute [local go_sem] max2_int min2_int max_two min_two max_three min_three max_four min_four
set_option linter.unusedVariables false
set_option linter.unusedSimpArgs false
set_option maxHeartbeats 8000000
set_option maxRecDepth 100000

/-! ### tabardref19_Shortest: function 17 -/
mutual
def tabardref19_Shortest.j1 : Nat → List (List Bool) → List ByteArray → List Bool → List (List Int) → Option (List Int)
 | 0, _, _, _, _ => none
 | k + 1, x3, x545000, x545001, x545002 => if 0 ≤ (wrap64 ((x3.length : Int) - 1)) then (if (wrap64 ((x3.length : Int) - 1)) < (x3.length : Int) then (if 0 < ((rd_L6 x3 (wrap64 ((x3.length : Int) - 1))).length : Int) then (if (rdOf false (rd_L6 x3 (wrap64 ((x3.length : Int) - 1))) 0 = true) then (tabardref19_Shortest.l1 k x3 (wrap64 ((x3.length : Int) - 1)) ([] : List Int) 0 x545000 x545001 x545002) else (some ([] : List Int))) else (none)) else (none)) else (none)
def tabardref19_Shortest.l1 : Nat → List (List Bool) → Int → List Int → Int → List ByteArray → List Bool → List (List Int) → Option (List Int)
 | 0, _, _, _, _, _, _, _ => none
 | k + 1, x3, x5, x6, x7, x545000, x545001, x545002 => if x5 > 0 then (tabardref19_Shortest.l2 k x3 (wrap64 (x5 - 1)) x6 x7 0 x545000 x545001 x545002) else (some x6)
def tabardref19_Shortest.l2 : Nat → List (List Bool) → Int → List Int → Int → Int → List ByteArray → List Bool → List (List Int) → Option (List Int)
 | 0, _, _, _, _, _, _, _, _ => none
 | k + 1, x3, x5, x6, x7, x8, x545000, x545001, x545002 => if 0 ≤ x5 then (if x5 < (x3.length : Int) then (if 0 ≤ x7 then (if x7 < (x545002.length : Int) then (if 0 ≤ x8 then (if x8 < ((rd_L4 x545002 x7).length : Int) then (if 0 ≤ (rd (rd_L4 x545002 x7) x8) then (if (rd (rd_L4 x545002 x7) x8) < ((rd_L6 x3 x5).length : Int) then (if (rdOf false (rd_L6 x3 x5) (rd (rd_L4 x545002 x7) x8) = true) then (if x6.length < 17592186044416 then (tabardref19_Shortest.l1 k x3 x5 (x6 ++ [x8]) (rd (rd_L4 x545002 x7) x8) x545000 x545001 x545002) else (none)) else (tabardref19_Shortest.l2 k x3 x5 x6 x7 (wrap64 (x8 + 1)) x545000 x545001 x545002)) else (none)) else (none)) else (none)) else (none)) else (none)) else (none)) else (none)) else (none)
def tabardref19_Shortest.l0 : Nat → List (List Bool) → Int → List ByteArray → List Bool → List (List Int) → Option (List Int)
 | 0, _, _, _, _, _ => none
 | k + 1, x3, x4, x545000, x545001, x545002 => if x4 ≤ (x545001.length : Int) then (if 0 ≤ (wrap64 (x4 - 1)) then (if (wrap64 (x4 - 1)) < (x3.length : Int) then ((tabardref19_behind.f k x545000 x545001 x545002 (rd_L6 x3 (wrap64 (x4 - 1)))).bind fun t549 => (if x3.length < 5864062014805 then ((some (x3 ++ [t549] : List (List Bool))).bind fun y552 => (if 0 ≤ x4 then (if x4 < (y552.length : Int) then (if 0 < ((rd_L6 y552 x4).length : Int) then (if rdOf false (rd_L6 y552 x4) 0 = true then (tabardref19_Shortest.j1 k y552 x545000 x545001 x545002) else (tabardref19_Shortest.l0 k y552 (wrap64 (x4 + 1)) x545000 x545001 x545002)) else (none)) else (none)) else (none))) else (none))) else (none)) else (none)) else (tabardref19_Shortest.j1 k x3 x545000 x545001 x545002)
end
def tabardref19_Shortest.f (k : Nat) (l0_0 : List ByteArray) (l0_1 : List Bool) (l0_2 : List (List Int)) : Option (List Int) := tabardref19_Shortest.l0 k (([l0_1] : List (List Bool))) 1 l0_0 l0_1 l0_2
theorem tabardref19_Shortest.mono_l : ∀ k, (∀ y0 y1 y2 y3, LeO (tabardref19_Shortest.j1 k y0 y1 y2 y3) (tabardref19_Shortest.j1 (k + 1) y0 y1 y2 y3)) ∧ (∀ y0 y1 y2 y3 y4 y5 y6, LeO (tabardref19_Shortest.l1 k y0 y1 y2 y3 y4 y5 y6) (tabardref19_Shortest.l1 (k + 1) y0 y1 y2 y3 y4 y5 y6)) ∧ (∀ y0 y1 y2 y3 y4 y5 y6 y7, LeO (tabardref19_Shortest.l2 k y0 y1 y2 y3 y4 y5 y6 y7) (tabardref19_Shortest.l2 (k + 1) y0 y1 y2 y3 y4 y5 y6 y7)) ∧ (∀ y0 y1 y2 y3 y4, LeO (tabardref19_Shortest.l0 k y0 y1 y2 y3 y4) (tabardref19_Shortest.l0 (k + 1) y0 y1 y2 y3 y4))
 | 0 => ⟨fun _ _ _ _ r h => by simp [tabardref19_Shortest.j1] at h, fun _ _ _ _ _ _ _ r h => by simp [tabardref19_Shortest.l1] at h, fun _ _ _ _ _ _ _ _ r h => by simp [tabardref19_Shortest.l2] at h, fun _ _ _ _ _ r h => by simp [tabardref19_Shortest.l0] at h⟩
 | k + 1 => by
  obtain ⟨ih0, ih1, ih2, ih3⟩ := tabardref19_Shortest.mono_l k; refine ⟨?_, ?_, ?_, ?_⟩
  ·intro y0 y1 y2 y3
   unfold tabardref19_Shortest.j1
   repeat' first | (with_reducible first | exact ih0 _ _ _ _ | exact ih1 _ _ _ _ _ _ _ | exact ih2 _ _ _ _ _ _ _ _ | exact ih3 _ _ _ _ _ | exact tabardref19_behind.mono _ _ _ _ _ | exact lA | apply lI | refine lB ?_ fun _ => ?_) | exact lN _ | apply lI | refine lB ?_ fun _ => ?_
  ·intro y0 y1 y2 y3 y4 y5 y6
   unfold tabardref19_Shortest.l1
   repeat' first | (with_reducible first | exact ih0 _ _ _ _ | exact ih1 _ _ _ _ _ _ _ | exact ih2 _ _ _ _ _ _ _ _ | exact ih3 _ _ _ _ _ | exact tabardref19_behind.mono _ _ _ _ _ | exact lA | apply lI | refine lB ?_ fun _ => ?_) | exact lN _ | apply lI | refine lB ?_ fun _ => ?_
  ·intro y0 y1 y2 y3 y4 y5 y6 y7
   unfold tabardref19_Shortest.l2
   repeat' first | (with_reducible first | exact ih0 _ _ _ _ | exact ih1 _ _ _ _ _ _ _ | exact ih2 _ _ _ _ _ _ _ _ | exact ih3 _ _ _ _ _ | exact tabardref19_behind.mono _ _ _ _ _ | exact lA | apply lI | refine lB ?_ fun _ => ?_) | exact lN _ | apply lI | refine lB ?_ fun _ => ?_
  ·intro y0 y1 y2 y3 y4
   unfold tabardref19_Shortest.l0
   repeat' first | (with_reducible first | exact ih0 _ _ _ _ | exact ih1 _ _ _ _ _ _ _ | exact ih2 _ _ _ _ _ _ _ _ | exact ih3 _ _ _ _ _ | exact tabardref19_behind.mono _ _ _ _ _ | exact lA | apply lI | refine lB ?_ fun _ => ?_) | exact lN _ | apply lI | refine lB ?_ fun _ => ?_
theorem tabardref19_Shortest.mono : ∀ a0 a1 a2 k, LeO (tabardref19_Shortest.f k a0 a1 a2) (tabardref19_Shortest.f (k + 1) a0 a1 a2) := by
 intro a0 a1 a2 k; obtain ⟨ih0, ih1, ih2, ih3⟩ := tabardref19_Shortest.mono_l k
 unfold tabardref19_Shortest.f
 repeat' first | (with_reducible first | exact ih0 _ _ _ _ | exact ih1 _ _ _ _ _ _ _ | exact ih2 _ _ _ _ _ _ _ _ | exact ih3 _ _ _ _ _ | exact tabardref19_behind.mono _ _ _ _ _ | exact lA | apply lI | refine lB ?_ fun _ => ?_) | exact lN _ | apply lI | refine lB ?_ fun _ => ?_
def tabardref19_Shortest.T5 : Bool × List (List Nat × List Nat) := (true, [([], []), ([], []), ([], []), ([], []), ([3], [3]), ([2, 4], [2, 4]), ([5], [5]), ([1, 6], [1, 6]), ([7], [7]), ([0, 8, 7], [0, 8]), ([9, 9, 0, 1, 2, 3, 4, 5, 6, 7, 8, 9], [0, 2, 9])])
def tabardref19_Shortest.B5 : List Nat := [0, 0, 0, 0, 8, 28, 60, 126, 254, 511, 1023]
theorem tabardref19_Shortest.tab5 : rtab .any (opsOf Try.f17 5) = tabardref19_Shortest.T5 := by kernel_rfl
theorem tabardref19_Shortest.bits5 : waitsOk tabardref19_Shortest.T5.2 tabardref19_Shortest.B5 = true := by kernel_rfl
def tabardref19_Shortest.T15 : Bool × List (List Nat × List Nat) := (true, [([], []), ([], []), ([0, 1], [0, 1]), ([2], [2]), ([], []), ([4], [4]), ([], []), ([5, 6], [5, 6]), ([7], [7]), ([], []), ([8, 9], [8, 9]), ([10], [10]), ([3, 11], [3, 11]), ([12], [12]), ([13], [13])])
def tabardref19_Shortest.B15 : List Nat := [0, 0, 3, 7, 0, 16, 0, 112, 240, 0, 1008, 2032, 4095, 8191, 16383]
theorem tabardref19_Shortest.tab15 : rtab .any (opsOf Try.f17 15) = tabardref19_Shortest.T15 := by kernel_rfl
theorem tabardref19_Shortest.bits15 : waitsOk tabardref19_Shortest.T15.2 tabardref19_Shortest.B15 = true := by kernel_rfl
theorem tabardref19_Shortest.calls (k : Nat) (aa : Option Addr) (ab : Nat) (O : List ByteArray) (P0_1_ : Nat → Prop) (Q : Option Addr) (U : Nat) (G : List Bool) (ak : Option Addr) (ac : Nat) (F : List (List Int)) (r : List Int) (w : World) (ci : Kd.C Kd.string w aa O.length O) (cj : O.length ≤ ab) (hs0_1 : Kd.V Kd.bool 4 w w.heap.size (fun k_ => P0_1_ k_) (.slice Q G.length U) G) (ck : Kd.C (Kd.slice 3 (Kd.int .i64)) w ak F.length F) (cl : F.length ≤ ac) (h : tabardref19_Shortest.f k O G F = some r) :
  Calls Try.prog 17 #[.agg #[.slice aa O.length ab, .slice Q G.length U, .slice ak F.length ac]] w fun e w' => ∃ dl : Value, e = .returned (dl) ∧ Kd.R (Kd.int .i64) 3 w' w.heap.size (fun k_ => (w.heap.size ≤ k_)) dl r ∧ Below w.heap.size w w' := by
 have hu45 := Try.underlying45; have cm := aM ci; have cn := aM cj; clear ci cj; have aW := aM (show Kd.V Kd.bool 4 w w.heap.size (fun k_ => (P0_1_ k_ ∨ w.heap.size ≤ k_)) (.slice Q G.length U) G from Kd.V_mono hs0_1 (fun k_ hk => .inl hk)); have bw := aM ck; have co := aM cl; clear ck cl; have HB := aM (Below.refl w.heap.size w); rw [tabardref19_Shortest.f] at h; have H := h; clear h; obtain ⟨dp, bF⟩ : ∃ y_ : List (List Bool), y_ = (([G] : List (List Bool))) := ⟨_, rfl⟩
 first | replace H := rI bF H | rw [← bF] at H
 have cp := aM bF; clear bF; have cV := aM H; clear H
 go_enter Try.func17, Try.ntmps17
 go_upto_block 0 with (first | ((with_reducible refine gate_dst (N := 1) rfl ?_); refine be_ (cs := #[.slice aa O.length ab, .slice Q G.length U, .slice ak F.length ac]) (t := 45) ?_; intro D hg w3 hbox hb; replace aW := aM (Kd.V_below (Kd.V_elderB (vO aW.out) D (Nat.le_of_eq hg.symm)) hb); have z := aM (hbox); have ee := gE hg (bP0 HB); have J := gE hg (bP0 HB); replace HB := hS0 HB hb; clear hb hbox hg; obtain ⟨d5, d6, d7, d8, d9, ea⟩ := bG3 z) | ((with_reducible refine gate_dst (N := 11) rfl ?_); refine Kd.N_lit (Kd.slice 4 Kd.bool) _ 23 ?hg (N' := 11) ?hd (xs := ([G] : List (List Bool))) (inner := [.slice Q G.length U]) (ok := (fun k_ => (P0_1_ k_ ∨ w.heap.size ≤ k_) ∧ k_ ≠ D)) (okp := (fun k_ => (P0_1_ k_ ∨ w.heap.size ≤ k_) ∧ k_ ≠ D)) ?hr ?hp (fun _ hk => hk) ((show ∀ k_, w3.heap.size ≤ k_ → (fun k_ => (P0_1_ k_ ∨ w.heap.size ≤ k_) ∧ k_ ≠ D) k_ from fun k_ hk => ⟨(.inr (Nat.le_trans (below_size (bP1 HB J)) hk)), Kd.freshB (g := D) (o := .cells #[.slice aa O.length ab, .slice Q G.length U, .slice ak F.length ac] 45 (0, 0)) (kO z.out) k_ hk⟩) _ (Nat.le_refl _)) (Below.refl _ _) (Nat.le_refl _) (by simp) ?_; (case hd => rfl); (case hg => rfl); (case hr => first | (go_simp; done) | (go_simp; rfl)); (case hp => exact (Reps.one (show Kd.FK (Kd.slice 4 Kd.bool) _ _ G [.slice Q G.length U] from (Kd.FK_slice_mk (Kd.V_reads' (Kd.V_mono (ok' := (fun k_ => (P0_1_ k_ ∨ w.heap.size ≤ k_) ∧ k_ ≠ D)) (aW.out) (fun k_ hk => ⟨hk.1, hk.2⟩))).2.1 (Kd.V_F (Kd.V_mono (ok' := (fun k_ => (P0_1_ k_ ∨ w.heap.size ≤ k_) ∧ k_ ≠ D)) (aW.out) (fun k_ hk => ⟨hk.1, hk.2⟩))))) (Reps.none _ _))); intro ez w5 bP hb hg_ hnew_; clear hg_ hnew_; (first | rw [← cp.out] at bP | (simp only [Int.reduceToNat] at bP; rw [← cp.out] at bP)); replace aW := aM (Kd.V_elder' (vO aW.out) (Kd.N_base bP) hb); have db := aM (Kd.N_lower bP (below_size (bP1 HB J))); replace z := kB z hb; replace HB := hS1 HB J hb; clear hb bP))
 (try simp only [Act.put, sA, sB, sC])
 go_cut [3] (fun v3 wc => ∃ (kq : Nat) (B : List (List Bool)), Aside0 (tabardref19_Shortest.j1 kq B O G F = some r) ∧ Aside0 (kq ≤ k) ∧ Aside0 (Kd.N (Kd.slice 4 Kd.bool) 23 wc w.heap.size (fun k_ => (P0_1_ k_ ∨ w.heap.size ≤ k_) ∧ k_ ≠ D) v3 B) ∧ Aside0 (Kd.V Kd.bool 4 wc w.heap.size (fun k_ => (P0_1_ k_ ∨ w.heap.size ≤ k_) ∧ some k_ ≠ (v3 : Value).ownBlock ∧ k_ ≠ D) (.slice Q G.length U) G) ∧ Aside0 (wc.heap[D]? = some (.cells #[(.slice aa O.length ab), (.slice Q G.length U), (.slice ak F.length ac)] 45 (0, 0))) ∧ BA w wc)
 case first =>
  have H := cV.out; clear cV; have H' := aM H; clear H
  go_wp2
  go_loopg [3, 4] k (fun kq v3 v4 w' => ∃ (B : List (List Bool)) (P : Int), v4 = .int .i64 P ∧ Aside0 (tabardref19_Shortest.l0 kq B P O G F = some r) ∧ Aside0 (kq ≤ k) ∧ Aside0 (Kd.N (Kd.slice 4 Kd.bool) 23 w' w.heap.size (fun k_ => (P0_1_ k_ ∨ w.heap.size ≤ k_) ∧ k_ ≠ D) v3 B) ∧ Aside0 (Kd.V Kd.bool 4 w' w.heap.size (fun k_ => (P0_1_ k_ ∨ w.heap.size ≤ k_) ∧ some k_ ≠ (v3 : Value).ownBlock ∧ k_ ≠ D) (.slice Q G.length U) G) ∧ Aside0 (w'.heap[D]? = some (.cells #[(.slice aa O.length ab), (.slice Q G.length U), (.slice ak F.length ac)] 45 (0, 0))) ∧ BA w w')
  case atStart => exact ⟨(dp), (1), sI, H', ⟨Nat.le_refl _⟩, ⟨by (with_reducible repeat (first | apply Kd.N_alloc | apply Kd.N_drewN | apply Kd.N_drew)); exact db.out⟩, ⟨by (with_reducible repeat (first | apply Kd.V_alloc | apply Kd.V_drewN | apply Kd.V_drew)); exact Kd.V_mono aW.out (fun _ hk => ⟨hk.1.1, ⟨hk.2, hk.1.2⟩⟩)⟩, kQ z, bT1 HB J⟩
  case round =>
   clear H'
   obtain ⟨B, P, rfl, HA, HK1, E, A, z, HB⟩ := hrel; cases gk with
   | zero => exact absurd HA.out (by simp [tabardref19_Shortest.l0])
   | succ k1 =>
    have H := HA.out; clear HA; simp only [tabardref19_Shortest.l0] at H
    by_cases c7 : P ≤ (G.length : Int)
    ·rw [if_pos c7] at H; have bI := dT c7; clear c7
     (first | rw [bI] | (simp only [i64_w, i32_w]; rw [bI]) | skip)
     obtain ⟨al, bJ⟩ : ∃ j_ : Int, (wrap64 (P - 1)) = j_ := ⟨_, rfl⟩
     first | rw [bJ] at H | simp only [bJ] at H
     have hji8w : (IntKind.i64.wrap (P - 1)) = al := (i64_w _).trans bJ
     by_cases c9 : 0 ≤ (al)
     ·rw [if_pos c9] at H; have eB := dT c9; clear c9
      by_cases cq : (al) < (B.length : Int)
      ·rw [if_pos cq] at H; have ef := dT cq; clear cq; replace H := Option.bind_eq_some_iff.mp H; obtain ⟨az, cY, H⟩ := H; have dm := aM cY; clear cY
       by_cases cr : B.length < 5864062014805
       ·rw [if_pos cr] at H; have ct := aM cr; clear cr; obtain ⟨am, bG⟩ : ∃ y_ : List (List Bool), y_ = (B ++ [az]) := ⟨_, rfl⟩
        first | replace H := rI bG H | rw [← bG] at H
        have cu := aM bG; clear bG
        by_cases cv : 0 ≤ P
        ·rw [if_pos cv] at H; have eg := dT cv; clear cv
         by_cases cw : P < (am.length : Int)
         ·rw [if_pos cw] at H; have eh := dT cw; clear cw
          by_cases cx : 0 < ((rd_L6 am P).length : Int)
          ·rw [if_pos cx] at H; have ei := dT cx; have ej : decide (0 < (rd_L6 am P).length) = true := dT (by omega); clear cx; obtain ⟨dq, bV⟩ : ∃ b_ : Bool, b_ = (rdOf false (rd_L6 am P) 0) := ⟨_, rfl⟩
           rw [← bV] at H
           have Nbq16 := aM bV; clear bV
           by_cases cy : dq = true
           ·subst cy
            rw [if_pos rfl] at H; have H' := aM H; clear H; obtain ⟨dF, dG, dH, dI, dJ, dK⟩ := bG3 z
            try go_wp2
            replace E := aM (Kd.N_drew E.out); replace A := aM (Kd.V_drew A.out); replace z := kD z; replace HB := aM (below_drew1 HB.out); obtain ⟨eC, bW, cZ⟩ := Kd.N_slice E.out
            (first | subst cZ | (injection cZ with a8 bK a9; have bL := a8.symm; have bM := a9.symm; clear a8 bK a9; subst bL; subst bM))
            have aX : 0 ≤ ((al) : Int) := oT aO; have aY : (al) < (B.length : Int) := oT aO; obtain ⟨an, ba, bb, b1, aq, aA, aC⟩ := at_L6 (Kd.N_reads' E.out).2.2 (al) aX aY; cases b1; obtain ⟨ce548, hce548, hMe548, bc⟩ := Kd.N_get E.out [] (al) aX (by first | exact aY | exact oT aO | (have e_ := (Kd.N_reads' E.out).1; omega)); obtain ⟨ua548_0, uc548_0, rfl, ul548_0, ge548_0⟩ := Kd.FK_slice_open hMe548; have ad := bc 0 _ rfl; rw [Nat.add_zero, show ((Kd.slice 4 Kd.bool)).sz = 1 from rfl, Nat.mul_one] at ad; replace ad := Option.some.inj (ad.symm.trans aq)
            injection ad with hva_ hvn_ hvc_
            rw [hva_] at ge548_0; rw [hvc_] at ul548_0; have HL548_0 := aM (show Kd.V Kd.bool 4 _ w.heap.size _ _ (rd_L6 B (al)) from Kd.V_mk ul548_0 ge548_0); clear hva_ hvn_ hvc_ ge548_0 ul548_0; clear bc hce548; have W := aM aC; have bB := aM aA; clear aC aA; replace aX := eq_true aX; replace aY := eq_true aY; refine start_ (n := 11) (S := fun w' => w'.cell? ⟨D, 0, none⟩ = some (.slice aa O.length ab) ∧ w'.cell? ⟨D, 1, none⟩ = some (.slice Q G.length U) ∧ w'.cell? ⟨D, 2, none⟩ = some (.slice ak F.length ac) ∧ w'.cell? (an.add ((al)).toNat) = some (.slice ba (rd_L6 B (al)).length bb)) (ds := [8, 9]) (bl 11 0) (by kernel_rfl) rfl rfl ⟨(blk_cell z.out 0).trans rfl, (blk_cell z.out 1).trans rfl, (blk_cell z.out 2).trans rfl, aq⟩ (fun hHeld => ?_); refine with_tabW tabardref19_Shortest.tab5 tabardref19_Shortest.bits5 (fun HT_ HW_ => ?_); generalize wr.drew = eP at E A z HB HL548_0 W aq hHeld ⊢; refine pu_ 0 19 (bl 11 1) HT_ ?_; refine pu_ 2 21 (bl 11 5) HT_ ?_; refine pu_ 3 22 (bl 11 13) HT_ ?_; refine pu_ 4 23 (bl 11 29) HT_ ?_; refine pu_ 5 24 (bl 11 61) HT_ ?_; refine tk4_ 1 20 (bl 11 63) HT_ HW_ hHeld ?_; refine tk4_ 6 25 (bl 11 127) HT_ HW_ hHeld ?_; refine one_ (i := 7) (N := some 26) (bl 11 255) rfl rfl (one_of HT_.out (by kernel_rfl)) (by decide) (fun K hK => ?_); refine goes_ Try.func37 (by kernel_rfl) rfl #[.agg #[.slice aa O.length ab, .slice Q G.length U, .slice ak F.length ac], .slice ba (rd_L6 B (al)).length bb] (by rfl) rfl rfl (by (try simp only [List.map_toArray, List.map_cons, List.map_nil]); first | done | (simp only [bJ]; rfl) | rfl | (simp only [List.length_drop, List.length_take]; rfl)) ?_
            with_reducible refine (tabardref19_behind.calls k1 _ _ O _ _ G _ _ F _ _ (rd_L6 B (al)) az _ ?s1 ?s2 ?s3 ?s4 ?s5 ?s6 ?s7 ?s8 dm.out).mono ?_
            (case s1 => exact cB cm HB)
            (case s2 => exact cn.out)
            (case s3 => exact cO (Kd.V_reads' A.out).2.2)
            (case s4 => exact (Kd.V_reads' A.out).2.1)
            (case s5 => exact cB bw HB)
            (case s6 => exact co.out)
            (case s7 => repeat (first | exact (by repeat (first | (with_reducible exact W.out) | (with_reducible refine Kd.C_alloc ?_ _) | (with_reducible refine Kd.C_drewN ?_ _) | (with_reducible refine Kd.C_drew ?_) | exact W.out)) | (with_reducible refine Kd.C_alloc ?_ _) | (with_reducible refine Kd.C_drewN ?_ _) | (with_reducible refine Kd.C_drew ?_)))
            (case s8 => exact bB.out)
            rintro e eQ ⟨dr, rfl, bd, hb⟩; have HS3_ := (hb.cell (World.block_lt_of_cell? _ _ (hHeld.2.2.2))).trans (hHeld.2.2.2); refine ⟨_, rfl, ?_⟩; replace E := aM (Kd.N_elder' (by (with_reducible repeat (first | apply Kd.N_alloc | apply Kd.N_drewN | apply Kd.N_drew)); exact E.out) (Kd.R_base bd) hb); replace A := aM (Kd.V_elder' (vO A.out) (Kd.R_base bd) hb); replace HL548_0 := aM (Kd.V_elder' (by (with_reducible repeat (first | apply Kd.V_alloc | apply Kd.V_drewN | apply Kd.V_drew)); exact HL548_0.out) (Kd.R_base bd) hb); have ay := rW (Kd.R_newM (M := fun k_ => (w.heap.size ≤ k_)) bd (below_size (bP1 HB J)) (fun k_ h_ => h_)) (bP1 HB J); replace z := kB z hb; replace W := aM (Kd.C_below (by repeat (first | (with_reducible exact W.out) | (with_reducible refine Kd.C_alloc ?_ _) | (with_reducible refine Kd.C_drewN ?_ _) | (with_reducible refine Kd.C_drew ?_) | exact W.out)) hb); replace HB := hS1 HB J hb
            (try clear hb)
            (try clear eb)
            (try clear hk)
            (try clear hi)
            (try clear bd)
            obtain ⟨b2, b3, c0⟩ := sL ay
            (first | subst c0 | (injection c0 with a8 bK a9; have bL := a8.symm; have bM := a9.symm; clear a8 bK a9; subst bL; subst bM))
            refine hK.out _ _ ⟨(blk_cell z.out 0).trans rfl, (blk_cell z.out 1).trans rfl, (blk_cell z.out 2).trans rfl, HS3_⟩ (fun hHeld => ?_); clear hK K; refine nm_ 26 ?_; refine last_ (i := 8) (N := some 27) (bl 11 511) rfl rfl (one_of HT_.out (by kernel_rfl)) (by decide) (fun K hK => ?_); refine value_ (w1 := ?_) (v := ?_) (by rfl) rfl ?_ ?_; rotate_left 2
            ·go_simp
             constructor
             ·rfl
             ·rfl
            refine hK.out _ _ ?_; clear hK K; refine nm_ 27 ?_; refine last_ (i := 9) (N := some 28) (bl 11 1023) rfl rfl (one_of HT_.out (by kernel_rfl)) (by decide) (fun K hK => ?_); refine Kd.N_append_step (Kd.slice 4 Kd.bool) (w0 := w) w.heap.size (by rfl) (.tmp 19) (.tmp 27) 78 23 (.slice none 0 0) 24 rfl Try.underlying78 info23 rfl (by decide) (by omega) (.slice (some an) B.length bW) B az [.slice b2 az.length b3] (fun k_ => (P0_1_ k_ ∨ w.heap.size ≤ k_) ∧ k_ ≠ D) (fun k_ => ((fun k_ => (P0_1_ k_ ∨ w.heap.size ≤ k_) ∧ k_ ≠ D)) k_ ∧ some k_ ≠ (.slice (some an) B.length bW : Value).ownBlock) rfl rfl ?aP (fun _ hk => hk) ?aF ?aO ?aB ?aS ?aL ?_
            (case aP => exact (Kd.FK_slice_mk (Kd.R_reads' (Kd.R_mono (ok' := (fun k_ => ((fun k_ => (P0_1_ k_ ∨ w.heap.size ≤ k_) ∧ k_ ≠ D)) k_ ∧ some k_ ≠ (.slice (some an) B.length bW : Value).ownBlock)) (Kd.R_types (Kd.R_apart' (ay.out) (Kd.N_typed E.out) (by decide)) z.out (by decide)) (fun k_ hk => ⟨⟨(.inr (hk.1.1.1)), hk.2⟩, hk.1.2⟩))).2.1 (Kd.R_F (Kd.R_mono (ok' := (fun k_ => ((fun k_ => (P0_1_ k_ ∨ w.heap.size ≤ k_) ∧ k_ ≠ D)) k_ ∧ some k_ ≠ (.slice (some an) B.length bW : Value).ownBlock)) (Kd.R_types (Kd.R_apart' (ay.out) (Kd.N_typed E.out) (by decide)) z.out (by decide)) (fun k_ hk => ⟨⟨(.inr (hk.1.1.1)), hk.2⟩, hk.1.2⟩)))))
            (case aB => exact (bP1 HB J))
            (case aF => exact (fun k_ hk => ⟨(.inr (Nat.le_trans (below_size (bP1 HB J)) hk)), Kd.freshB (g := D) (o := .cells #[.slice aa O.length ab, .slice Q G.length U, .slice ak F.length ac] 45 (0, 0)) (kO z.out) k_ hk⟩))
            (case aO => exact (by (with_reducible repeat (first | apply Kd.N_alloc | apply Kd.N_drewN | apply Kd.N_drew)); exact Kd.N_mono E.out (fun _ hk => ⟨hk.1.1, hk.1.2⟩)))
            (case aS => exact (below_size (bP1 HB J)))
            (case aL => have := ct.out; omega)
            intro dt eR ho hb hg hat; rw [← cu.out] at ho; replace A := aM (Kd.V_afterv (ok := (fun k_ => (P0_1_ k_ ∨ w.heap.size ≤ k_) ∧ some k_ ≠ (.slice b2 az.length b3 : Value).ownBlock ∧ k_ ≠ D)) (by (with_reducible repeat (first | apply Kd.V_alloc | apply Kd.V_drewN | apply Kd.V_drew)); exact Kd.V_mono A.out (fun _ hk => ⟨⟨hk.1.1, ⟨hk.2, hk.1.2.2⟩⟩, hk.1.2.1⟩)) hg hat); replace z := aM (blk_grown (g := D) (o := .cells #[.slice aa O.length ab, .slice Q G.length U, .slice ak F.length ac] 45 (0, 0)) (kO z.out) hg (Kd.N_ne E.out z.out (by decide))); replace HL548_0 := aM (Kd.V_afterv (ok := (fun k_ => (P0_1_ k_ ∨ w.heap.size ≤ k_) ∧ some k_ ≠ (.slice b2 az.length b3 : Value).ownBlock ∧ k_ ≠ D)) (by (with_reducible repeat (first | apply Kd.V_alloc | apply Kd.V_drewN | apply Kd.V_drew)); exact Kd.V_mono HL548_0.out (fun _ hk => ⟨⟨hk.1.1.1, ⟨hk.2, hk.1.1.2⟩⟩, hk.1.2⟩)) hg hat); replace HB := aM (hb); have ao := aM (ho); clear E; clear ay; clear ho hb hg hat; refine hK.out _ _ ?_; clear hK K; refine nm_ 28 ?_; refine pu_ 10 3 (bl 11 2047) HT_ ?_; refine done_ (done_of HT_.out (by kernel_rfl)) ?_; obtain ⟨eD, eE, du⟩ := Kd.N_slice ao.out; subst du; have aZ : 0 ≤ (P : Int) := oT aO; have a3 : P < (am.length : Int) := oT aO; obtain ⟨dd, c1, c2, b4, bC, aD, aE⟩ := at_L6 (Kd.N_reads' ao.out).2.2 P aZ a3; cases b4; obtain ⟨ce555, hce555, hMe555, be⟩ := Kd.N_get ao.out [] P aZ (by first | exact a3 | exact oT aO | (have e_ := (Kd.N_reads' ao.out).1; omega)); obtain ⟨ua555_0, uc555_0, rfl, ul555_0, ge555_0⟩ := Kd.FK_slice_open hMe555; have ae := be 0 _ rfl; rw [Nat.add_zero, show ((Kd.slice 4 Kd.bool)).sz = 1 from rfl, Nat.mul_one] at ae; replace ae := Option.some.inj (ae.symm.trans bC)
            injection ae with hva_ hvn_ hvc_
            rw [hva_] at ge555_0; rw [hvc_] at ul555_0; have HL555_0 := aM (show Kd.V Kd.bool 4 _ w.heap.size _ _ (rd_L6 am P) from Kd.V_mk ul555_0 ge555_0); clear hva_ hvn_ hvc_ ge555_0 ul555_0; clear be hce555; have aG := aM aE; have cQ := aM aD; clear aE aD; replace aZ := eq_true aZ; replace a3 := eq_true a3; have bk : 0 ≤ (0 : Int) := (by omega); have bm : 0 < ((rd_L6 am P).length : Int) := oT aO; obtain ⟨de, b5, ar⟩ := Kd.at_bool (by repeat (first | (with_reducible exact aG.out) | (with_reducible refine Kd.C_alloc ?_ _) | (with_reducible refine Kd.C_drewN ?_ _) | (with_reducible refine Kd.C_drew ?_) | exact aG.out)) 0 bk bm
            (try rw [← Nbq16.out] at ar)
            cases b5; have qi556 : (0 < (rd_L6 am P).length) = True := eq_true (by omega)
            (try rw [show ((0 : Int)).toNat = 0 from rfl] at ar)
            (try rw [Addr.add_zero'] at ar)
            replace bk := eq_true bk; replace bm := eq_true bm
            try go_wp2
            go_meet
            case rel => exact ⟨_, (am), H', ⟨by have := HK1.out; first | omega | exact Nat.le_refl _⟩, ⟨by (with_reducible repeat (first | apply Kd.N_alloc | apply Kd.N_drewN | apply Kd.N_drew)); exact ao.out⟩, ⟨by (with_reducible repeat (first | apply Kd.V_alloc | apply Kd.V_drewN | apply Kd.V_drew)); exact Kd.V_mono A.out (fun _ hk => ⟨hk.1.1, ⟨hk.2, hk.1.2.2⟩⟩)⟩, kQ z, bT1 HB J⟩
           ·replace cy := Bool.eq_false_iff.mpr cy; subst cy
            rw [if_neg nF] at H; have H' := aM H; clear H; obtain ⟨dL, dM, dN, dO, dP, dQ⟩ := bG3 z
            try go_wp2
            replace E := aM (Kd.N_drew E.out); replace A := aM (Kd.V_drew A.out); replace z := kD z; replace HB := aM (below_drew1 HB.out); obtain ⟨eF, bX, c3⟩ := Kd.N_slice E.out
            (first | subst c3 | (injection c3 with a8 bK a9; have bL := a8.symm; have bM := a9.symm; clear a8 bK a9; subst bL; subst bM))
            have aX : 0 ≤ ((al) : Int) := oT aO; have aY : (al) < (B.length : Int) := oT aO; obtain ⟨an, ba, bb, b1, aq, aA, aC⟩ := at_L6 (Kd.N_reads' E.out).2.2 (al) aX aY; cases b1; obtain ⟨ce548, hce548, hMe548, bc⟩ := Kd.N_get E.out [] (al) aX (by first | exact aY | exact oT aO | (have e_ := (Kd.N_reads' E.out).1; omega)); obtain ⟨ua548_0, uc548_0, rfl, ul548_0, ge548_0⟩ := Kd.FK_slice_open hMe548; have ad := bc 0 _ rfl; rw [Nat.add_zero, show ((Kd.slice 4 Kd.bool)).sz = 1 from rfl, Nat.mul_one] at ad; replace ad := Option.some.inj (ad.symm.trans aq)
            injection ad with hva_ hvn_ hvc_
            rw [hva_] at ge548_0; rw [hvc_] at ul548_0; have HL548_0 := aM (show Kd.V Kd.bool 4 _ w.heap.size _ _ (rd_L6 B (al)) from Kd.V_mk ul548_0 ge548_0); clear hva_ hvn_ hvc_ ge548_0 ul548_0; clear bc hce548; have W := aM aC; have bB := aM aA; clear aC aA; replace aX := eq_true aX; replace aY := eq_true aY; refine start_ (n := 11) (S := fun w' => w'.cell? ⟨D, 0, none⟩ = some (.slice aa O.length ab) ∧ w'.cell? ⟨D, 1, none⟩ = some (.slice Q G.length U) ∧ w'.cell? ⟨D, 2, none⟩ = some (.slice ak F.length ac) ∧ w'.cell? (an.add ((al)).toNat) = some (.slice ba (rd_L6 B (al)).length bb)) (ds := [8, 9]) (bl 11 0) (by kernel_rfl) rfl rfl ⟨(blk_cell z.out 0).trans rfl, (blk_cell z.out 1).trans rfl, (blk_cell z.out 2).trans rfl, aq⟩ (fun hHeld => ?_); refine with_tabW tabardref19_Shortest.tab5 tabardref19_Shortest.bits5 (fun HT_ HW_ => ?_); generalize wr.drew = eS at E A z HB HL548_0 W aq hHeld ⊢; refine pu_ 0 19 (bl 11 1) HT_ ?_; refine pu_ 2 21 (bl 11 5) HT_ ?_; refine pu_ 3 22 (bl 11 13) HT_ ?_; refine pu_ 4 23 (bl 11 29) HT_ ?_; refine pu_ 5 24 (bl 11 61) HT_ ?_; refine tk4_ 1 20 (bl 11 63) HT_ HW_ hHeld ?_; refine tk4_ 6 25 (bl 11 127) HT_ HW_ hHeld ?_; refine one_ (i := 7) (N := some 26) (bl 11 255) rfl rfl (one_of HT_.out (by kernel_rfl)) (by decide) (fun K hK => ?_); refine goes_ Try.func37 (by kernel_rfl) rfl #[.agg #[.slice aa O.length ab, .slice Q G.length U, .slice ak F.length ac], .slice ba (rd_L6 B (al)).length bb] (by rfl) rfl rfl (by (try simp only [List.map_toArray, List.map_cons, List.map_nil]); first | done | (simp only [bJ]; rfl) | rfl | (simp only [List.length_drop, List.length_take]; rfl)) ?_
            with_reducible refine (tabardref19_behind.calls k1 _ _ O _ _ G _ _ F _ _ (rd_L6 B (al)) az _ ?s1 ?s2 ?s3 ?s4 ?s5 ?s6 ?s7 ?s8 dm.out).mono ?_
            (case s1 => exact cB cm HB)
            (case s2 => exact cn.out)
            (case s3 => exact cO (Kd.V_reads' A.out).2.2)
            (case s4 => exact (Kd.V_reads' A.out).2.1)
            (case s5 => exact cB bw HB)
            (case s6 => exact co.out)
            (case s7 => repeat (first | exact (by repeat (first | (with_reducible exact W.out) | (with_reducible refine Kd.C_alloc ?_ _) | (with_reducible refine Kd.C_drewN ?_ _) | (with_reducible refine Kd.C_drew ?_) | exact W.out)) | (with_reducible refine Kd.C_alloc ?_ _) | (with_reducible refine Kd.C_drewN ?_ _) | (with_reducible refine Kd.C_drew ?_)))
            (case s8 => exact bB.out)
            rintro e eT ⟨dr, rfl, bd, hb⟩; have HS3_ := (hb.cell (World.block_lt_of_cell? _ _ (hHeld.2.2.2))).trans (hHeld.2.2.2); refine ⟨_, rfl, ?_⟩; replace E := aM (Kd.N_elder' (by (with_reducible repeat (first | apply Kd.N_alloc | apply Kd.N_drewN | apply Kd.N_drew)); exact E.out) (Kd.R_base bd) hb); replace A := aM (Kd.V_elder' (vO A.out) (Kd.R_base bd) hb); replace HL548_0 := aM (Kd.V_elder' (by (with_reducible repeat (first | apply Kd.V_alloc | apply Kd.V_drewN | apply Kd.V_drew)); exact HL548_0.out) (Kd.R_base bd) hb); have ay := rW (Kd.R_newM (M := fun k_ => (w.heap.size ≤ k_)) bd (below_size (bP1 HB J)) (fun k_ h_ => h_)) (bP1 HB J); replace z := kB z hb; replace W := aM (Kd.C_below (by repeat (first | (with_reducible exact W.out) | (with_reducible refine Kd.C_alloc ?_ _) | (with_reducible refine Kd.C_drewN ?_ _) | (with_reducible refine Kd.C_drew ?_) | exact W.out)) hb); replace HB := hS1 HB J hb
            (try clear hb)
            (try clear eb)
            (try clear hk)
            (try clear hi)
            (try clear bd)
            obtain ⟨b6, b7, c4⟩ := sL ay
            (first | subst c4 | (injection c4 with a8 bK a9; have bL := a8.symm; have bM := a9.symm; clear a8 bK a9; subst bL; subst bM))
            refine hK.out _ _ ⟨(blk_cell z.out 0).trans rfl, (blk_cell z.out 1).trans rfl, (blk_cell z.out 2).trans rfl, HS3_⟩ (fun hHeld => ?_); clear hK K; refine nm_ 26 ?_; refine last_ (i := 8) (N := some 27) (bl 11 511) rfl rfl (one_of HT_.out (by kernel_rfl)) (by decide) (fun K hK => ?_); refine value_ (w1 := ?_) (v := ?_) (by rfl) rfl ?_ ?_; rotate_left 2
            ·go_simp
             constructor
             ·rfl
             ·rfl
            refine hK.out _ _ ?_; clear hK K; refine nm_ 27 ?_; refine last_ (i := 9) (N := some 28) (bl 11 1023) rfl rfl (one_of HT_.out (by kernel_rfl)) (by decide) (fun K hK => ?_); refine Kd.N_append_step (Kd.slice 4 Kd.bool) (w0 := w) w.heap.size (by rfl) (.tmp 19) (.tmp 27) 78 23 (.slice none 0 0) 24 rfl Try.underlying78 info23 rfl (by decide) (by omega) (.slice (some an) B.length bX) B az [.slice b6 az.length b7] (fun k_ => (P0_1_ k_ ∨ w.heap.size ≤ k_) ∧ k_ ≠ D) (fun k_ => ((fun k_ => (P0_1_ k_ ∨ w.heap.size ≤ k_) ∧ k_ ≠ D)) k_ ∧ some k_ ≠ (.slice (some an) B.length bX : Value).ownBlock) rfl rfl ?aP (fun _ hk => hk) ?aF ?aO ?aB ?aS ?aL ?_
            (case aP => exact (Kd.FK_slice_mk (Kd.R_reads' (Kd.R_mono (ok' := (fun k_ => ((fun k_ => (P0_1_ k_ ∨ w.heap.size ≤ k_) ∧ k_ ≠ D)) k_ ∧ some k_ ≠ (.slice (some an) B.length bX : Value).ownBlock)) (Kd.R_types (Kd.R_apart' (ay.out) (Kd.N_typed E.out) (by decide)) z.out (by decide)) (fun k_ hk => ⟨⟨(.inr (hk.1.1.1)), hk.2⟩, hk.1.2⟩))).2.1 (Kd.R_F (Kd.R_mono (ok' := (fun k_ => ((fun k_ => (P0_1_ k_ ∨ w.heap.size ≤ k_) ∧ k_ ≠ D)) k_ ∧ some k_ ≠ (.slice (some an) B.length bX : Value).ownBlock)) (Kd.R_types (Kd.R_apart' (ay.out) (Kd.N_typed E.out) (by decide)) z.out (by decide)) (fun k_ hk => ⟨⟨(.inr (hk.1.1.1)), hk.2⟩, hk.1.2⟩)))))
            (case aB => exact (bP1 HB J))
            (case aF => exact (fun k_ hk => ⟨(.inr (Nat.le_trans (below_size (bP1 HB J)) hk)), Kd.freshB (g := D) (o := .cells #[.slice aa O.length ab, .slice Q G.length U, .slice ak F.length ac] 45 (0, 0)) (kO z.out) k_ hk⟩))
            (case aO => exact (by (with_reducible repeat (first | apply Kd.N_alloc | apply Kd.N_drewN | apply Kd.N_drew)); exact Kd.N_mono E.out (fun _ hk => ⟨hk.1.1, hk.1.2⟩)))
            (case aS => exact (below_size (bP1 HB J)))
            (case aL => have := ct.out; omega)
            intro dt eU ho hb hg hat; rw [← cu.out] at ho; replace A := aM (Kd.V_afterv (ok := (fun k_ => (P0_1_ k_ ∨ w.heap.size ≤ k_) ∧ some k_ ≠ (.slice b6 az.length b7 : Value).ownBlock ∧ k_ ≠ D)) (by (with_reducible repeat (first | apply Kd.V_alloc | apply Kd.V_drewN | apply Kd.V_drew)); exact Kd.V_mono A.out (fun _ hk => ⟨⟨hk.1.1, ⟨hk.2, hk.1.2.2⟩⟩, hk.1.2.1⟩)) hg hat); replace z := aM (blk_grown (g := D) (o := .cells #[.slice aa O.length ab, .slice Q G.length U, .slice ak F.length ac] 45 (0, 0)) (kO z.out) hg (Kd.N_ne E.out z.out (by decide))); replace HL548_0 := aM (Kd.V_afterv (ok := (fun k_ => (P0_1_ k_ ∨ w.heap.size ≤ k_) ∧ some k_ ≠ (.slice b6 az.length b7 : Value).ownBlock ∧ k_ ≠ D)) (by (with_reducible repeat (first | apply Kd.V_alloc | apply Kd.V_drewN | apply Kd.V_drew)); exact Kd.V_mono HL548_0.out (fun _ hk => ⟨⟨hk.1.1.1, ⟨hk.2, hk.1.1.2⟩⟩, hk.1.2⟩)) hg hat); replace HB := aM (hb); have ao := aM (ho); clear E; clear ay; clear ho hb hg hat; refine hK.out _ _ ?_; clear hK K; refine nm_ 28 ?_; refine pu_ 10 3 (bl 11 2047) HT_ ?_; refine done_ (done_of HT_.out (by kernel_rfl)) ?_; obtain ⟨eG, eH, dv⟩ := Kd.N_slice ao.out; subst dv; have aZ : 0 ≤ (P : Int) := oT aO; have a3 : P < (am.length : Int) := oT aO; obtain ⟨dd, c1, c2, b4, bC, aD, aE⟩ := at_L6 (Kd.N_reads' ao.out).2.2 P aZ a3; cases b4; obtain ⟨ce555, hce555, hMe555, be⟩ := Kd.N_get ao.out [] P aZ (by first | exact a3 | exact oT aO | (have e_ := (Kd.N_reads' ao.out).1; omega)); obtain ⟨ua555_0, uc555_0, rfl, ul555_0, ge555_0⟩ := Kd.FK_slice_open hMe555; have ae := be 0 _ rfl; rw [Nat.add_zero, show ((Kd.slice 4 Kd.bool)).sz = 1 from rfl, Nat.mul_one] at ae; replace ae := Option.some.inj (ae.symm.trans bC)
            injection ae with hva_ hvn_ hvc_
            rw [hva_] at ge555_0; rw [hvc_] at ul555_0; have HL555_0 := aM (show Kd.V Kd.bool 4 _ w.heap.size _ _ (rd_L6 am P) from Kd.V_mk ul555_0 ge555_0); clear hva_ hvn_ hvc_ ge555_0 ul555_0; clear be hce555; have aG := aM aE; have cQ := aM aD; clear aE aD; replace aZ := eq_true aZ; replace a3 := eq_true a3; have bk : 0 ≤ (0 : Int) := (by omega); have bm : 0 < ((rd_L6 am P).length : Int) := oT aO; obtain ⟨de, b5, ar⟩ := Kd.at_bool (by repeat (first | (with_reducible exact aG.out) | (with_reducible refine Kd.C_alloc ?_ _) | (with_reducible refine Kd.C_drewN ?_ _) | (with_reducible refine Kd.C_drew ?_) | exact aG.out)) 0 bk bm
            (try rw [← Nbq16.out] at ar)
            cases b5; have qi556 : (0 < (rd_L6 am P).length) = True := eq_true (by omega)
            (try rw [show ((0 : Int)).toNat = 0 from rfl] at ar)
            (try rw [Addr.add_zero'] at ar)
            replace bk := eq_true bk; replace bm := eq_true bm
            try go_wp2
            go_roundg k1
            case measure => have := HK1.out; omega
            case rel => exact ⟨(am), (wrap64 (P + 1)), sI, H', ⟨by have := HK1.out; omega⟩, ⟨by (with_reducible repeat (first | apply Kd.N_alloc | apply Kd.N_drewN | apply Kd.N_drew)); exact ao.out⟩, ⟨by (with_reducible repeat (first | apply Kd.V_alloc | apply Kd.V_drewN | apply Kd.V_drew)); exact Kd.V_mono A.out (fun _ hk => ⟨hk.1.1, ⟨hk.2, hk.1.2.2⟩⟩)⟩, kQ z, bT1 HB J⟩
          ·exact nX cx H
         ·exact nX cw H
        ·exact nX cv H
       ·exact nX cr H
      ·exact nX cq H
     ·exact nX c9 H
    ·rw [if_neg c7] at H; have bI := decide_eq_false c7; clear c7
     (first | rw [bI] | (simp only [i64_w, i32_w]; rw [bI]) | skip)
     have H' := aM H; clear H; obtain ⟨dR, dS, dU, dV, dW, dX⟩ := bG3 z
     go_wp2
     go_meet
     case rel => exact ⟨_, (B), H', ⟨by have := HK1.out; first | omega | exact Nat.le_refl _⟩, ⟨by (with_reducible repeat (first | apply Kd.N_alloc | apply Kd.N_drewN | apply Kd.N_drew)); exact E.out⟩, ⟨vO A.out⟩, kQ z, bT1 HB J⟩
 case rest =>
  clear cV
  obtain ⟨kq, B, HA, HJ1, E, A, z, HB⟩ := hcut; cases kq with
  | zero => exact absurd HA.out (by simp [tabardref19_Shortest.j1])
  | succ dn =>
   have H := HA.out; clear HA; simp only [tabardref19_Shortest.j1] at H; obtain ⟨Z, bi⟩ : ∃ j_ : Int, (wrap64 ((B.length : Int) - 1)) = j_ := ⟨_, rfl⟩
   first | rw [bi] at H | simp only [bi] at H
   have hji33w : (IntKind.i64.wrap ((B.length : Int) - 1)) = Z := (i64_w _).trans bi
   by_cases cz : 0 ≤ (Z)
   ·rw [if_pos cz] at H; have ek := dT cz; clear cz
    by_cases cA : (Z) < (B.length : Int)
    ·rw [if_pos cA] at H; have el := dT cA; clear cA
     by_cases cC : 0 < ((rd_L6 B (Z)).length : Int)
     ·rw [if_pos cC] at H; have em := dT cC; have en : decide (0 < (rd_L6 B (Z)).length) = true := dT (by omega); clear cC; obtain ⟨dw, bY⟩ : ∃ b_ : Bool, b_ = (rdOf false (rd_L6 B (Z)) 0) := ⟨_, rfl⟩
      rw [← bY] at H
      have Nbq37 := aM bY; clear bY
      by_cases cD : (dw = true)
      ·subst cD
       rw [if_pos rfl] at H; have H' := aM H; clear H; obtain ⟨eI, bD, dx⟩ := Kd.N_slice E.out; subst dx; have a4 : 0 ≤ ((Z) : Int) := oT aO; have a5 : (Z) < (B.length : Int) := oT aO; obtain ⟨ap, c5, c6, b8, bE, aH, aI⟩ := at_L6 (Kd.N_reads' E.out).2.2 (Z) a4 a5; cases b8; obtain ⟨ce557, hce557, hMe557, bf⟩ := Kd.N_get E.out [] (Z) a4 (by first | exact a5 | exact oT aO | (have e_ := (Kd.N_reads' E.out).1; omega)); obtain ⟨ua557_0, uc557_0, rfl, ul557_0, ge557_0⟩ := Kd.FK_slice_open hMe557; have af := bf 0 _ rfl; rw [Nat.add_zero, show ((Kd.slice 4 Kd.bool)).sz = 1 from rfl, Nat.mul_one] at af; replace af := Option.some.inj (af.symm.trans bE)
       injection af with hva_ hvn_ hvc_
       rw [hva_] at ge557_0; rw [hvc_] at ul557_0; have HL557_0 := aM (show Kd.V Kd.bool 4 _ w.heap.size _ _ (rd_L6 B (Z)) from Kd.V_mk ul557_0 ge557_0); clear hva_ hvn_ hvc_ ge557_0 ul557_0; clear bf hce557; have aJ := aM aI; have cR := aM aH; clear aI aH; replace a4 := eq_true a4; replace a5 := eq_true a5; have bn : 0 ≤ (0 : Int) := (by omega); have bo : 0 < ((rd_L6 B (Z)).length : Int) := oT aO; obtain ⟨df, b9, au⟩ := Kd.at_bool (by repeat (first | (with_reducible exact aJ.out) | (with_reducible refine Kd.C_alloc ?_ _) | (with_reducible refine Kd.C_drewN ?_ _) | (with_reducible refine Kd.C_drew ?_) | exact aJ.out)) 0 bn bo
       (try rw [← Nbq37.out] at au)
       cases b9; have qi558 : (0 < (rd_L6 B (Z)).length) = True := eq_true (by omega)
       (try rw [show ((0 : Int)).toNat = 0 from rfl] at au)
       (try rw [Addr.add_zero'] at au)
       replace bn := eq_true bn; replace bo := eq_true bo
       go_wp2
       go_loopg [5, 6, 7] dn (fun kq v5 v6 v7 w' => ∃ (bp : Int) (bg : List Int) (I : Int), v5 = .int .i64 bp ∧ v7 = .int .i64 I ∧ Aside0 (tabardref19_Shortest.l1 kq B bp bg I O G F = some r) ∧ Aside0 (kq ≤ dn) ∧ Aside0 (Kd.N (Kd.slice 4 Kd.bool) 23 w' w.heap.size (fun k_ => (P0_1_ k_ ∨ w.heap.size ≤ k_) ∧ some k_ ≠ (v6 : Value).ownBlock ∧ k_ ≠ D) (.slice (some ap) B.length bD) B) ∧ Aside0 (Kd.R (Kd.int .i64) 3 w' w.heap.size (fun k_ => (w.heap.size ≤ k_)) v6 bg) ∧ Aside0 (Kd.V Kd.bool 4 w' w.heap.size (fun k_ => (P0_1_ k_ ∨ w.heap.size ≤ k_) ∧ some k_ ≠ ((.slice (some ap) B.length bD) : Value).ownBlock ∧ some k_ ≠ (v6 : Value).ownBlock ∧ k_ ≠ D) (.slice Q G.length U) G) ∧ Aside0 (w'.heap[D]? = some (.cells #[(.slice aa O.length ab), (.slice Q G.length U), (.slice ak F.length ac)] 45 (0, 0))) ∧ BA w w')
       case atStart => exact ⟨(Z), (([] : List Int)), (0), (by first | rfl | (simp; done) | (simp only [← bi] <;> (first | rfl | simp)) | (simp [*]; done)), sI, H', ⟨Nat.le_refl _⟩, ⟨by (with_reducible repeat (first | apply Kd.N_alloc | apply Kd.N_drewN | apply Kd.N_drew)); exact Kd.N_mono E.out (fun _ hk => ⟨hk.1, ⟨(by simp [Value.ownBlock]), hk.2⟩⟩)⟩, ⟨by first | exact Kd.R_nil _ _ _ _ _ | exact Kd.N_nil _ _ _ _ _ | exact Kd.V_nil _ _ _ _ _ | exact Kd.Q_nil _ _ _ _ _ | exact Kd.S_nil _ _ _ _ _⟩, ⟨by (with_reducible repeat (first | apply Kd.V_alloc | apply Kd.V_drewN | apply Kd.V_drew)); exact Kd.V_mono A.out (fun _ hk => ⟨hk.1, ⟨hk.2.1, ⟨(by simp [Value.ownBlock]), hk.2.2⟩⟩⟩)⟩, kQ z, bT1 HB J⟩
       case round =>
        clear H'
        obtain ⟨bp, bg, I, rfl, rfl, HA, HK2, E, av, A, z, HB⟩ := hrel; cases gk with
        | zero => exact absurd HA.out (by simp [tabardref19_Shortest.l1])
        | succ k2 =>
         have H := HA.out; clear HA; simp only [tabardref19_Shortest.l1] at H
         by_cases bQ : bp > 0
         ·rw [if_pos bQ] at H; have dg := dT bQ; clear bQ; have H' := aM H; clear H
          go_wp2
          go_loopg [8] k2 (fun kq v8 w' => ∃ (L : Int), v8 = .int .i64 L ∧ Aside0 (tabardref19_Shortest.l2 kq B (wrap64 (bp - 1)) bg I L O G F = some r) ∧ Aside0 (kq ≤ k2) ∧ Aside0 (Kd.N (Kd.slice 4 Kd.bool) 23 w' w.heap.size (fun k_ => (P0_1_ k_ ∨ w.heap.size ≤ k_) ∧ some k_ ≠ (u6 : Value).ownBlock ∧ k_ ≠ D) (.slice (some ap) B.length bD) B) ∧ Aside0 (Kd.R (Kd.int .i64) 3 w' w.heap.size (fun k_ => (w.heap.size ≤ k_)) u6 bg) ∧ Aside0 (Kd.V Kd.bool 4 w' w.heap.size (fun k_ => (P0_1_ k_ ∨ w.heap.size ≤ k_) ∧ some k_ ≠ ((.slice (some ap) B.length bD) : Value).ownBlock ∧ some k_ ≠ (u6 : Value).ownBlock ∧ k_ ≠ D) (.slice Q G.length U) G) ∧ Aside0 (w'.heap[D]? = some (.cells #[(.slice aa O.length ab), (.slice Q G.length U), (.slice ak F.length ac)] 45 (0, 0))) ∧ BA w w')
          case atStart => exact ⟨(0), sI, H', ⟨Nat.le_refl _⟩, ⟨by (with_reducible repeat (first | apply Kd.N_alloc | apply Kd.N_drewN | apply Kd.N_drew)); exact E.out⟩, rQ av, ⟨vO A.out⟩, kQ z, bT1 HB J⟩
          case round =>
           clear H'
           obtain ⟨L, rfl, HA, HK3, E, av, A, z, HB⟩ := hrel; cases gk with
           | zero => exact absurd HA.out (by simp [tabardref19_Shortest.l2])
           | succ k3 =>
            have H := HA.out; clear HA; simp only [tabardref19_Shortest.l2] at H; obtain ⟨Y, bx⟩ : ∃ j_ : Int, (wrap64 (bp - 1)) = j_ := ⟨_, rfl⟩
            first | rw [bx] at H | simp only [bx] at H
            have hji41w : (IntKind.i64.wrap (bp - 1)) = Y := (i64_w _).trans bx
            by_cases cE : 0 ≤ (Y)
            ·rw [if_pos cE] at H; have eo := dT cE; clear cE
             by_cases cF : (Y) < (B.length : Int)
             ·rw [if_pos cF] at H; have ep := dT cF; clear cF
              by_cases cG : 0 ≤ I
              ·rw [if_pos cG] at H; have er := dT cG; clear cG
               by_cases cH : I < (F.length : Int)
               ·rw [if_pos cH] at H; have es := dT cH; clear cH
                by_cases cI : 0 ≤ L
                ·rw [if_pos cI] at H; have et := dT cI; clear cI
                 by_cases cJ : L < ((rd_L4 F I).length : Int)
                 ·rw [if_pos cJ] at H; have eu := dT cJ; clear cJ
                  by_cases cK : 0 ≤ (rd (rd_L4 F I) L)
                  ·rw [if_pos cK] at H; have ev := dT cK; clear cK
                   by_cases cL : (rd (rd_L4 F I) L) < ((rd_L6 B (Y)).length : Int)
                   ·rw [if_pos cL] at H; have ew := dT cL; clear cL; obtain ⟨dA, bZ⟩ : ∃ b_ : Bool, b_ = (rdOf false (rd_L6 B (Y)) (rd (rd_L4 F I) L)) := ⟨_, rfl⟩
                    rw [← bZ] at H
                    have Nbq50 := aM bZ; clear bZ
                    by_cases cM : (dA = true)
                    ·subst cM
                     rw [if_pos rfl] at H
                     by_cases cN : bg.length < 17592186044416
                     ·rw [if_pos cN] at H; have dh := aM cN; clear cN; obtain ⟨dB, bH⟩ : ∃ y_ : List Int, y_ = (bg ++ [L]) := ⟨_, rfl⟩
                      first | replace H := rI bH H | rw [← bH] at H
                      have di := aM bH; clear bH; have H' := aM H; clear H
                      try go_wp2
                      replace E := aM (Kd.N_drew E.out); replace av := aM (Kd.R_drew av.out); replace A := aM (Kd.V_drew A.out); replace z := kD z; replace HB := aM (below_drew1 HB.out); have a6 : 0 ≤ ((Y) : Int) := oT aO; have a7 : (Y) < (B.length : Int) := oT aO; obtain ⟨b0, c8, bN, ca, aw, aK, aN⟩ := at_L6 (Kd.N_reads' E.out).2.2 (Y) a6 a7; have he_ : ap = b0 := (by injection ca); subst he_; obtain ⟨ce559, hce559, hMe559, bh⟩ := Kd.N_get E.out [] (Y) a6 (by first | exact a7 | exact oT aO | (have e_ := (Kd.N_reads' E.out).1; omega)); obtain ⟨ua559_0, uc559_0, rfl, ul559_0, ge559_0⟩ := Kd.FK_slice_open hMe559; have ag := bh 0 _ rfl; rw [Nat.add_zero, show ((Kd.slice 4 Kd.bool)).sz = 1 from rfl, Nat.mul_one] at ag; replace ag := Option.some.inj (ag.symm.trans aw)
                      injection ag with hva_ hvn_ hvc_
                      rw [hva_] at ge559_0; rw [hvc_] at ul559_0; have HL559_0 := aM (show Kd.V Kd.bool 4 _ w.heap.size _ _ (rd_L6 B (Y)) from Kd.V_mk ul559_0 ge559_0); clear hva_ hvn_ hvc_ ge559_0 ul559_0; clear bh hce559; have ax := aM aN; have cS := aM aK; clear aN aK; replace a6 := eq_true a6; replace a7 := eq_true a7; have bq : 0 ≤ (I : Int) := oT aO; have br : I < (F.length : Int) := oT aO; obtain ⟨bj, da, bO, cb, ah, aQ, aR⟩ := at_L4 bw.out I bq br; have aT := ah; cases cb; replace ah := cX HB ah; have aU := aM aR; have cT := aM aQ; clear aR aQ; replace bq := eq_true bq; replace br := eq_true br; have bs : 0 ≤ (L : Int) := oT aO; have bt : L < ((rd_L4 F I).length : Int) := oT aO; obtain ⟨bz, cc, ai⟩ := Kd.at_int aU.out L bs bt; have aV := ai; cases cc; replace ai := cX HB ai; replace bs := eq_true bs; replace bt := eq_true bt; have bu : 0 ≤ ((rd (rd_L4 F I) L) : Int) := oT aO; have bv : (rd (rd_L4 F I) L) < ((rd_L6 B (Y)).length : Int) := oT aO; obtain ⟨bA, cd, aj⟩ := Kd.at_bool (by repeat (first | (with_reducible exact ax.out) | (with_reducible refine Kd.C_alloc ?_ _) | (with_reducible refine Kd.C_drewN ?_ _) | (with_reducible refine Kd.C_drew ?_) | exact ax.out)) (rd (rd_L4 F I) L) bu bv
                      (try rw [← Nbq37.out] at aj)
                      (try rw [← Nbq50.out] at aj)
                      cases cd; replace bu := eq_true bu; replace bv := eq_true bv; refine start_ (n := 15) (S := fun w' => w'.cell? ⟨D, 0, none⟩ = some (.slice aa O.length ab) ∧ w'.cell? ⟨D, 1, none⟩ = some (.slice Q G.length U) ∧ w'.cell? ⟨D, 2, none⟩ = some (.slice (some bj) F.length ac) ∧ w'.cell? (ap.add ((Y)).toNat) = some (.slice (some bA) (rd_L6 B (Y)).length bN) ∧ w'.cell? (bj.add (I).toNat) = some (.slice (some bz) (rd_L4 F I).length bO) ∧ w'.cell? (bz.add (L).toNat) = some (.int .i64 (rd (rd_L4 F I) L)) ∧ w'.cell? (bA.add ((rd (rd_L4 F I) L)).toNat) = some (.bool true)) (ds := []) (bl 15 0) (by kernel_rfl) rfl rfl ⟨(blk_cell z.out 0).trans rfl, (blk_cell z.out 1).trans rfl, (blk_cell z.out 2).trans rfl, aw, ((HB.out.cell (World.block_lt_of_cell? w _ aT)).trans aT), ((HB.out.cell (World.block_lt_of_cell? w _ aV)).trans aV), aj⟩ (fun hHeld => ?_); refine with_tabW tabardref19_Shortest.tab15 tabardref19_Shortest.bits15 (fun HT_ HW_ => ?_); generalize wr.drew = eV at E av A z HB HL559_0 ax aU aw ah ai aj hHeld ⊢; refine pu_ 0 49 (bl 15 1) HT_ ?_; refine pu_ 1 50 (bl 15 3) HT_ ?_; refine pu_ 2 51 (bl 15 7) HT_ ?_; refine pu_ 4 53 (bl 15 23) HT_ ?_; refine pu_ 6 55 (bl 15 87) HT_ ?_; refine pu_ 9 58 (bl 15 599) HT_ ?_; refine tk7_ 3 52 (bl 15 607) HT_ HW_ hHeld ?_; refine tk7_ 5 54 (bl 15 639) HT_ HW_ hHeld ?_; refine pu_ 7 56 (bl 15 767) HT_ ?_; refine tk7_ 8 57 (bl 15 1023) HT_ HW_ hHeld ?_; refine pu_ 10 59 (bl 15 2047) HT_ ?_; refine tk7_ 11 60 (bl 15 4095) HT_ HW_ hHeld ?_; refine pu_ 12 61 (bl 15 8191) HT_ ?_; refine tk7_ 13 62 (bl 15 16383) HT_ HW_ hHeld ?_; refine pu_ 14 63 (bl 15 32767) HT_ ?_; refine done_ (done_of HT_.out (by kernel_rfl)) ?_
                      try go_wp2_with (first | ((with_reducible refine gate_builtin (b := .append) (xs := #[.tmp 66, .tmp 68]) rfl ?_); at_builtin; refine Kd.R_append (Kd.int .i64) (w0 := w) w.heap.size rfl (.tmp 66) (.tmp 68) 24 3 (.int .i64 0) 8 rfl Try.underlying24 info3 rfl (by decide) (by omega) u6 bg L [.int .i64 L] (fun k_ => (w.heap.size ≤ k_)) (fun _ => False) rfl rfl ?aP (fun _ hk => hk.elim) ?aF ?aO ?aB ?aS ?aL ?_; (case aP => exact rfl); (case aB => exact (bP1 HB J)); (case aF => exact (fun k_ hk => (Nat.le_trans (below_size (bP1 HB J)) hk))); (case aO => exact (rP av)); (case aS => exact (below_size (bP1 HB J))); (case aL => have := dh.out; omega); intro eM eW ho hb hg hat; rw [← di.out] at ho; replace E := aM (Kd.N_afterv (ok := (fun k_ => (P0_1_ k_ ∨ w.heap.size ≤ k_) ∧ k_ ≠ D)) (by (with_reducible repeat (first | apply Kd.N_alloc | apply Kd.N_drewN | apply Kd.N_drew)); exact Kd.N_mono E.out (fun _ hk => ⟨⟨hk.1, hk.2.2⟩, hk.2.1⟩)) hg hat); replace A := aM (Kd.V_afterv (ok := (fun k_ => (P0_1_ k_ ∨ w.heap.size ≤ k_) ∧ some k_ ≠ (.slice (some ap) B.length bD : Value).ownBlock ∧ k_ ≠ D)) (by (with_reducible repeat (first | apply Kd.V_alloc | apply Kd.V_drewN | apply Kd.V_drew)); exact Kd.V_mono A.out (fun _ hk => ⟨⟨hk.1, ⟨hk.2.1, hk.2.2.2⟩⟩, hk.2.2.1⟩)) hg hat); replace z := kG z hg av; replace HL559_0 := aM (Kd.V_afterv (ok := (fun k_ => (P0_1_ k_ ∨ w.heap.size ≤ k_) ∧ some k_ ≠ (.slice (some ap) B.length bD : Value).ownBlock ∧ k_ ≠ D)) (by (with_reducible repeat (first | apply Kd.V_alloc | apply Kd.V_drewN | apply Kd.V_drew)); exact Kd.V_mono HL559_0.out (fun _ hk => ⟨⟨hk.1.1, ⟨hk.2, hk.1.2.2⟩⟩, hk.1.2.1⟩)) hg hat); replace HB := aM (hb); have dj := aM (ho); clear av; clear ho hb hg hat; obtain ⟨dY, dZ, d0, d1, d2, d3⟩ := bG3 z; have ce : 0 ≤ (I : Int) := oT aO; have cf : I < (F.length : Int) := oT aO; obtain ⟨dk, ec, ed, dC, bR, bS, bT⟩ := at_L4 bw.out I ce cf; have he_ : bj = dk := (by injection dC); subst he_; replace bR := cX HB bR; have cU := aM bT; have d4 := aM bS; clear bT bS; replace ce := eq_true ce; replace cf := eq_true cf; have cg : 0 ≤ (L : Int) := oT aO; have ch : L < ((rd_L4 F I).length : Int) := oT aO; obtain ⟨ex, dD, bU⟩ := Kd.at_int cU.out L cg ch; cases dD; replace bU := cX HB bU; replace cg := eq_true cg; replace ch := eq_true ch))
                      go_roundg k3
                      case measure => have := HJ1.out; have := HK2.out; have := HK3.out; omega
                      case rel => exact ⟨((Y)), (dB), (rd (rd_L4 F I) L), (by first | rfl | (simp; done) | (simp only [← bx] <;> (first | rfl | simp)) | (simp [*]; done)), sI, H', ⟨by have := HJ1.out; have := HK2.out; have := HK3.out; omega⟩, ⟨by (with_reducible repeat (first | apply Kd.N_alloc | apply Kd.N_drewN | apply Kd.N_drew)); exact Kd.N_mono E.out (fun _ hk => ⟨hk.1.1, ⟨hk.2, hk.1.2⟩⟩)⟩, rQ dj, ⟨by (with_reducible repeat (first | apply Kd.V_alloc | apply Kd.V_drewN | apply Kd.V_drew)); exact Kd.V_mono A.out (fun _ hk => ⟨hk.1.1, ⟨hk.1.2.1, ⟨hk.2, hk.1.2.2⟩⟩⟩)⟩, kQ z, bT1 HB J⟩
                     ·exact nX cN H
                    ·replace cM := Bool.eq_false_iff.mpr cM; subst cM
                     rw [if_neg nF] at H; have H' := aM H; clear H
                     try go_wp2
                     replace E := aM (Kd.N_drew E.out); replace av := aM (Kd.R_drew av.out); replace A := aM (Kd.V_drew A.out); replace z := kD z; replace HB := aM (below_drew1 HB.out); have a6 : 0 ≤ ((Y) : Int) := oT aO; have a7 : (Y) < (B.length : Int) := oT aO; obtain ⟨b0, c8, bN, ca, aw, aK, aN⟩ := at_L6 (Kd.N_reads' E.out).2.2 (Y) a6 a7; have he_ : ap = b0 := (by injection ca); subst he_; obtain ⟨ce559, hce559, hMe559, bh⟩ := Kd.N_get E.out [] (Y) a6 (by first | exact a7 | exact oT aO | (have e_ := (Kd.N_reads' E.out).1; omega)); obtain ⟨ua559_0, uc559_0, rfl, ul559_0, ge559_0⟩ := Kd.FK_slice_open hMe559; have ag := bh 0 _ rfl; rw [Nat.add_zero, show ((Kd.slice 4 Kd.bool)).sz = 1 from rfl, Nat.mul_one] at ag; replace ag := Option.some.inj (ag.symm.trans aw)
                     injection ag with hva_ hvn_ hvc_
                     rw [hva_] at ge559_0; rw [hvc_] at ul559_0; have HL559_0 := aM (show Kd.V Kd.bool 4 _ w.heap.size _ _ (rd_L6 B (Y)) from Kd.V_mk ul559_0 ge559_0); clear hva_ hvn_ hvc_ ge559_0 ul559_0; clear bh hce559; have ax := aM aN; have cS := aM aK; clear aN aK; replace a6 := eq_true a6; replace a7 := eq_true a7; have bq : 0 ≤ (I : Int) := oT aO; have br : I < (F.length : Int) := oT aO; obtain ⟨bj, da, bO, cb, ah, aQ, aR⟩ := at_L4 bw.out I bq br; have aT := ah; cases cb; replace ah := cX HB ah; have aU := aM aR; have cT := aM aQ; clear aR aQ; replace bq := eq_true bq; replace br := eq_true br; have bs : 0 ≤ (L : Int) := oT aO; have bt : L < ((rd_L4 F I).length : Int) := oT aO; obtain ⟨bz, cc, ai⟩ := Kd.at_int aU.out L bs bt; have aV := ai; cases cc; replace ai := cX HB ai; replace bs := eq_true bs; replace bt := eq_true bt; have bu : 0 ≤ ((rd (rd_L4 F I) L) : Int) := oT aO; have bv : (rd (rd_L4 F I) L) < ((rd_L6 B (Y)).length : Int) := oT aO; obtain ⟨bA, cd, aj⟩ := Kd.at_bool (by repeat (first | (with_reducible exact ax.out) | (with_reducible refine Kd.C_alloc ?_ _) | (with_reducible refine Kd.C_drewN ?_ _) | (with_reducible refine Kd.C_drew ?_) | exact ax.out)) (rd (rd_L4 F I) L) bu bv
                     (try rw [← Nbq37.out] at aj)
                     (try rw [← Nbq50.out] at aj)
                     cases cd; replace bu := eq_true bu; replace bv := eq_true bv; refine start_ (n := 15) (S := fun w' => w'.cell? ⟨D, 0, none⟩ = some (.slice aa O.length ab) ∧ w'.cell? ⟨D, 1, none⟩ = some (.slice Q G.length U) ∧ w'.cell? ⟨D, 2, none⟩ = some (.slice (some bj) F.length ac) ∧ w'.cell? (ap.add ((Y)).toNat) = some (.slice (some bA) (rd_L6 B (Y)).length bN) ∧ w'.cell? (bj.add (I).toNat) = some (.slice (some bz) (rd_L4 F I).length bO) ∧ w'.cell? (bz.add (L).toNat) = some (.int .i64 (rd (rd_L4 F I) L)) ∧ w'.cell? (bA.add ((rd (rd_L4 F I) L)).toNat) = some (.bool false)) (ds := []) (bl 15 0) (by kernel_rfl) rfl rfl ⟨(blk_cell z.out 0).trans rfl, (blk_cell z.out 1).trans rfl, (blk_cell z.out 2).trans rfl, aw, ((HB.out.cell (World.block_lt_of_cell? w _ aT)).trans aT), ((HB.out.cell (World.block_lt_of_cell? w _ aV)).trans aV), aj⟩ (fun hHeld => ?_); refine with_tabW tabardref19_Shortest.tab15 tabardref19_Shortest.bits15 (fun HT_ HW_ => ?_); generalize wr.drew = eX at E av A z HB HL559_0 ax aU aw ah ai aj hHeld ⊢; refine pu_ 0 49 (bl 15 1) HT_ ?_; refine pu_ 1 50 (bl 15 3) HT_ ?_; refine pu_ 2 51 (bl 15 7) HT_ ?_; refine pu_ 4 53 (bl 15 23) HT_ ?_; refine pu_ 6 55 (bl 15 87) HT_ ?_; refine pu_ 9 58 (bl 15 599) HT_ ?_; refine tk7_ 3 52 (bl 15 607) HT_ HW_ hHeld ?_; refine tk7_ 5 54 (bl 15 639) HT_ HW_ hHeld ?_; refine pu_ 7 56 (bl 15 767) HT_ ?_; refine tk7_ 8 57 (bl 15 1023) HT_ HW_ hHeld ?_; refine pu_ 10 59 (bl 15 2047) HT_ ?_; refine tk7_ 11 60 (bl 15 4095) HT_ HW_ hHeld ?_; refine pu_ 12 61 (bl 15 8191) HT_ ?_; refine tk7_ 13 62 (bl 15 16383) HT_ HW_ hHeld ?_; refine pu_ 14 63 (bl 15 32767) HT_ ?_; refine done_ (done_of HT_.out (by kernel_rfl)) ?_
                     try go_wp2
                     subst bx
                     go_roundg k3
                     case measure => have := HJ1.out; have := HK2.out; have := HK3.out; omega
                     case rel => exact ⟨(wrap64 (L + 1)), sI, H', ⟨by have := HJ1.out; have := HK2.out; have := HK3.out; omega⟩, ⟨by (with_reducible repeat (first | apply Kd.N_alloc | apply Kd.N_drewN | apply Kd.N_drew)); exact E.out⟩, rQ av, ⟨vO A.out⟩, kQ z, bT1 HB J⟩
                   ·exact nX cL H
                  ·exact nX cK H
                 ·exact nX cJ H
                ·exact nX cI H
               ·exact nX cH H
              ·exact nX cG H
             ·exact nX cF H
            ·exact nX cE H
         ·rw [if_neg bQ] at H; have dg := decide_eq_false bQ; clear bQ; obtain rfl := Option.some.inj H
          go_wp2
          go_ret
          exact ⟨_, by first | rfl | (simp [errW_none, errW_some] <;> rfl) | (simp only [← bi]; first | rfl | (simp [errW_none, errW_some] <;> rfl)) | (simp [*, errW_none, errW_some] <;> rfl), rO av.out, bS1 HB.out J.out⟩
      ·replace cD := Bool.eq_false_iff.mpr cD; subst cD
       rw [if_neg nF] at H; obtain rfl := Option.some.inj H; obtain ⟨eN, eO, dE⟩ := Kd.N_slice E.out; subst dE; have a4 : 0 ≤ ((Z) : Int) := oT aO; have a5 : (Z) < (B.length : Int) := oT aO; obtain ⟨ap, c5, c6, b8, bE, aH, aI⟩ := at_L6 (Kd.N_reads' E.out).2.2 (Z) a4 a5; cases b8; obtain ⟨ce557, hce557, hMe557, bf⟩ := Kd.N_get E.out [] (Z) a4 (by first | exact a5 | exact oT aO | (have e_ := (Kd.N_reads' E.out).1; omega)); obtain ⟨ua557_0, uc557_0, rfl, ul557_0, ge557_0⟩ := Kd.FK_slice_open hMe557; have af := bf 0 _ rfl; rw [Nat.add_zero, show ((Kd.slice 4 Kd.bool)).sz = 1 from rfl, Nat.mul_one] at af; replace af := Option.some.inj (af.symm.trans bE)
       injection af with hva_ hvn_ hvc_
       rw [hva_] at ge557_0; rw [hvc_] at ul557_0; have HL557_0 := aM (show Kd.V Kd.bool 4 _ w.heap.size _ _ (rd_L6 B (Z)) from Kd.V_mk ul557_0 ge557_0); clear hva_ hvn_ hvc_ ge557_0 ul557_0; clear bf hce557; have aJ := aM aI; have cR := aM aH; clear aI aH; replace a4 := eq_true a4; replace a5 := eq_true a5; have bn : 0 ≤ (0 : Int) := (by omega); have bo : 0 < ((rd_L6 B (Z)).length : Int) := oT aO; obtain ⟨df, b9, au⟩ := Kd.at_bool (by repeat (first | (with_reducible exact aJ.out) | (with_reducible refine Kd.C_alloc ?_ _) | (with_reducible refine Kd.C_drewN ?_ _) | (with_reducible refine Kd.C_drew ?_) | exact aJ.out)) 0 bn bo
       (try rw [← Nbq37.out] at au)
       cases b9; have qi558 : (0 < (rd_L6 B (Z)).length) = True := eq_true (by omega)
       (try rw [show ((0 : Int)).toNat = 0 from rfl] at au)
       (try rw [Addr.add_zero'] at au)
       replace bn := eq_true bn; replace bo := eq_true bo
       go_wp2
       go_ret
       exact ⟨_, by first | rfl | (simp [errW_none, errW_some] <;> rfl) | (simp only [← bi]; first | rfl | (simp [errW_none, errW_some] <;> rfl)) | (simp [*, errW_none, errW_some] <;> rfl), by first | exact Kd.R_nil _ _ _ _ _ | exact Kd.N_nil _ _ _ _ _ | exact Kd.V_nil _ _ _ _ _ | exact Kd.Q_nil _ _ _ _ _ | exact Kd.S_nil _ _ _ _ _, bS1 HB.out J.out⟩
     ·exact nX cC H
    ·exact nX cA H
   ·exact nX cz H

end Go.Proofs.Ytninoenmhcbonaa.X
