/- What the functions of this seat compute, and that the program's calls come to just that: written by this session's own program out of the translation; no condition. -/
import Derived.Test.YthgoonohpfoagaaX0
import Derived.Test.YthgoonohpfoagaaX30
import Derived.Test.YthgoonohpfoagaaX41
import Derived.Test.YthgoonohpfoagaaX1
import Derived.Test.YthgoonohpfoagaaX46
import Derived.Test.YthgoonohpfoagaaX49
import Derived.Test.YthgoonohpfoagaaX11
import Derived.Test.YthgoonohpfoagaaX14
import Derived.Test.YthgoonohpfoagaaX17
import Derived.Test.YthgoonohpfoagaaX24
namespace Go.Proofs.Ythgoonohpfoagaa.X
open Go.RowKit Go.Proofs.YthgoonohpfoagaaW.PrintWords Go.Proofs.YthgoonohpfoagaaW.PrintLast Go.Proofs.YthgoonohpfoagaaW.PrintMore
attribute [local go_sem] max2_int min2_int max_two min_two max_three min_three max_four min_four
set_option linter.unusedVariables false
set_option linter.unusedSimpArgs false
set_option maxHeartbeats 8000000
set_option maxRecDepth 100000

/-! ### truth_whole_times: function 43 -/
mutual
def truth_whole_times.l0 : Nat → List Int → List Int → Int → Int → Bool → List Int → Bool → List Int → Option (Bool × List Int)
 | 0, _, _, _, _, _, _, _, _ => none
 | k + 1, x5, x21, x22, x23, x461000, x461001, x462000, x462001 => if x23 < x22 then (if 0 ≤ x23 then (if x23 < (x21.length : Int) then (truth_whole_times.l1 k x5 x23 (rd x21 x23) 0 x21 x22 x23 x462001 (x462001.length : Int) 0 x461000 x461001 x462000 x462001) else (none)) else (none)) else ((truth_made.f k (x461000 != x462000) x5).bind fun bt466 => (some (bt466.1, bt466.2)))
def truth_whole_times.l1 : Nat → List Int → Int → Int → Int → List Int → Int → Int → List Int → Int → Int → Bool → List Int → Bool → List Int → Option (Bool × List Int)
 | 0, _, _, _, _, _, _, _, _, _, _, _, _, _, _ => none
 | k + 1, x5, x6, x7, x8, x21, x22, x23, x29, x30, x31, x461000, x461001, x462000, x462001 => if x31 < x30 then (if 0 ≤ x31 then (if x31 < (x29.length : Int) then (if 0 ≤ (wrap64 (x6 + x31)) then (if (wrap64 (x6 + x31)) < (x5.length : Int) then (truth_whole_times.l1 k (x5.set ((wrap64 (x6 + x31)) : Int).toNat ((IntKind.u64.wrap ((IntKind.u64.wrap ((IntKind.u64.wrap ((IntKind.u64.wrap (x7)) * (IntKind.u64.wrap (rd x29 x31)))) + (IntKind.u64.wrap (rd x5 (wrap64 (x6 + x31)))))) + x8)) % 4294967296)) x6 x7 ((IntKind.u64.wrap ((IntKind.u64.wrap ((IntKind.u64.wrap ((IntKind.u64.wrap (x7)) * (IntKind.u64.wrap (rd x29 x31)))) + (IntKind.u64.wrap (rd x5 (wrap64 (x6 + x31)))))) + x8)) / 4294967296) x21 x22 x23 x29 x30 (wrap64 (x31 + 1)) x461000 x461001 x462000 x462001) else (none)) else (none)) else (none)) else (none)) else (if 0 ≤ (wrap64 (x6 + (x462001.length : Int))) then (if (wrap64 (x6 + (x462001.length : Int))) < (x5.length : Int) then (truth_whole_times.l0 k (x5.set ((wrap64 (x6 + (x462001.length : Int))) : Int).toNat ((x8) % 4294967296)) x21 x22 (wrap64 (x23 + 1)) x461000 x461001 x462000 x462001) else (none)) else (none))
end
def truth_whole_times.f (k : Nat) (a0_0 : Bool) (l0_1 : List Int) (a1_0 : Bool) (l1_1 : List Int) : Option (Bool × List Int) := if 0 ≤ (wrap64 ((l0_1.length : Int) + (l1_1.length : Int))) then (if (wrap64 ((l0_1.length : Int) + (l1_1.length : Int)) : Int).toNat ≤ 70368744177664 then (truth_whole_times.l0 k (List.replicate (wrap64 ((l0_1.length : Int) + (l1_1.length : Int)) : Int).toNat 0) l0_1 (l0_1.length : Int) 0 a0_0 l0_1 a1_0 l1_1) else (none)) else (none)
theorem truth_whole_times.mono_l : ∀ k, (∀ y0 y1 y2 y3 y4 y5 y6 y7, LeO (truth_whole_times.l0 k y0 y1 y2 y3 y4 y5 y6 y7) (truth_whole_times.l0 (k + 1) y0 y1 y2 y3 y4 y5 y6 y7)) ∧ (∀ y0 y1 y2 y3 y4 y5 y6 y7 y8 y9 y10 y11 y12 y13, LeO (truth_whole_times.l1 k y0 y1 y2 y3 y4 y5 y6 y7 y8 y9 y10 y11 y12 y13) (truth_whole_times.l1 (k + 1) y0 y1 y2 y3 y4 y5 y6 y7 y8 y9 y10 y11 y12 y13))
 | 0 => ⟨fun _ _ _ _ _ _ _ _ r h => by simp [truth_whole_times.l0] at h, fun _ _ _ _ _ _ _ _ _ _ _ _ _ _ r h => by simp [truth_whole_times.l1] at h⟩
 | k + 1 => by
  obtain ⟨ih0, ih1⟩ := truth_whole_times.mono_l k; refine ⟨?_, ?_⟩
  ·intro y0 y1 y2 y3 y4 y5 y6 y7
   unfold truth_whole_times.l0
   repeat' first | (with_reducible first | exact ih0 _ _ _ _ _ _ _ _ | exact ih1 _ _ _ _ _ _ _ _ _ _ _ _ _ _ | exact truth_made.mono _ _ _ | exact lA | apply lI | refine lB ?_ fun _ => ?_) | exact lN _ | apply lI | refine lB ?_ fun _ => ?_
  ·intro y0 y1 y2 y3 y4 y5 y6 y7 y8 y9 y10 y11 y12 y13
   unfold truth_whole_times.l1
   repeat' first | (with_reducible first | exact ih0 _ _ _ _ _ _ _ _ | exact ih1 _ _ _ _ _ _ _ _ _ _ _ _ _ _ | exact truth_made.mono _ _ _ | exact lA | apply lI | refine lB ?_ fun _ => ?_) | exact lN _ | apply lI | refine lB ?_ fun _ => ?_
theorem truth_whole_times.mono : ∀ a0 a1 a2 a3 k, LeO (truth_whole_times.f k a0 a1 a2 a3) (truth_whole_times.f (k + 1) a0 a1 a2 a3) := by
 intro a0 a1 a2 a3 k; obtain ⟨ih0, ih1⟩ := truth_whole_times.mono_l k
 unfold truth_whole_times.f
 repeat' first | (with_reducible first | exact ih0 _ _ _ _ _ _ _ _ | exact ih1 _ _ _ _ _ _ _ _ _ _ _ _ _ _ | exact truth_made.mono _ _ _ | exact lA | apply lI | refine lB ?_ fun _ => ?_) | exact lN _ | apply lI | refine lB ?_ fun _ => ?_
theorem truth_whole_times.calls (k : Nat) (ab : Bool) (ar : Option Addr) (ag : Nat) (F : List Int) (ac : Bool) (ah : Option Addr) (ai : Nat) (G : List Int) (r1 : Bool) (r2 : List Int) (w : World) (aK : Kd.C (Kd.int .u32) w ar F.length F) (aL : F.length ≤ ag) (aN : Kd.C (Kd.int .u32) w ah G.length G) (aP : G.length ≤ ai) (h : truth_whole_times.f k ab F ac G = some (r1, r2)) :
  Calls Try.prog 43 #[.agg #[.bool ab, .slice ar F.length ag], .agg #[.bool ac, .slice ah G.length ai]] w fun e w' => ∃ bA : Value, e = .returned (.agg #[.bool r1, bA]) ∧ Kd.V (Kd.int .u32) 117 w' w.heap.size (fun k_ => (w.heap.size ≤ k_)) bA r2 ∧ Below w.heap.size w w' := by
 have hu90 := Try.underlying90; have bq := aM aK; have cm := aM aL; clear aK aL; have br := aM aN; have cn := aM aP; clear aN aP; have HB := aM (Below.refl w.heap.size w); rw [truth_whole_times.f] at h; have H := h; clear h; obtain ⟨au, az⟩ : ∃ j_ : Int, (wrap64 ((F.length : Int) + (G.length : Int))) = j_ := ⟨_, rfl⟩
 first | rw [az] at H | simp only [az] at H
 have hji3w : (IntKind.i64.wrap ((F.length : Int) + (G.length : Int))) = au := (i64_w _).trans az
 by_cases c4 : 0 ≤ (au)
 ·rw [if_pos c4] at H; have cU := eq_true c4; have cV := dT c4; clear c4
  by_cases c5 : (au : Int).toNat ≤ 70368744177664
  ·rw [if_pos c5] at H; have cW := eq_true c5; have cY := dT c5; clear c5; obtain ⟨bC, al⟩ : ∃ y_ : List Int, y_ = (List.replicate (au : Int).toNat 0) := ⟨_, rfl⟩
   first | replace H := rI al H | rw [← al] at H
   have bs := aM al; clear al; have H' := aM H; clear H
   go_enter Try.func43, Try.ntmps43
   go_wp2_with (first | ((with_reducible refine gate_dst (N := 2) rfl ?_); refine be_ (cs := #[.bool ab, .slice ar F.length ag]) (t := 90) ?_; intro am hg w6 hbox hb; have z := aM (hbox); have co := gE hg (bP0 HB); have I := gE hg (bP0 HB); replace HB := hS0 HB hb; clear hb hbox hg) | ((with_reducible refine gate_dst (N := 3) rfl ?_); refine be_ (cs := #[.bool ac, .slice ah G.length ai]) (t := 90) ?_; intro an hg w7 hbox hb; have A := aM (hbox); have cp := gE hg (bP1 HB I); have L := gE hg (bP1 HB I); replace HB := hS1 HB I hb; have U := nL hg z; have W := nG hg z; replace z := kB z hb; clear hb hbox hg) | ((with_reducible refine gate_dst (N := 4) rfl ?_); refine be_ (cs := #[.bool false, .slice none 0 0]) (t := 90) ?_; intro Y hg w8 hbox hb; have D := aM (hbox); have cq := gE hg (bP2 HB I L); have Q := gE hg (bP2 HB I L); replace HB := hS2 HB I L hb; have aj := nL hg z; have ak := nG hg z; replace z := kB z hb; have Z := nL hg A; have aa := nG hg A; replace A := kB A hb; clear hb hbox hg; have cZ := U.out; have c0 := W.out; have cr := aj.out; have ct := ak.out; obtain ⟨bL, bM, bN, bO⟩ := bG2 z; have cu := Z.out; have cv := aa.out; obtain ⟨bP, bQ, bR, bS⟩ := bG2 A) | ((with_reducible refine gate_dst (N := 19) rfl ?_); refine Kd.R_make (Kd.int .u32) _ 117 rfl (N := 19) rfl 88 _ _ rfl au rfl rfl Try.underlying88 (.int .u32 0) 4 info117 rfl (by decide) (by omega) 0 (ok := fun _ => True) (okp := fun _ => True) rfl (fun _ hk => hk) trivial (oT aO) (Nat.le_trans (Nat.mul_le_mul_right _ (oT aO : au.toNat ≤ 70368744177664)) (by omega)) (Below.refl _ _) (Nat.le_refl _) ?_; intro a8 c7 aA hb hg_ hnew_; clear hg_ hnew_; replace aA := nW bs aA; have bt := rW (Kd.R_newM (M := fun k_ => (w.heap.size ≤ k_)) aA (below_size (bP3 HB I L Q)) (fun k_ h_ => h_)) (bP3 HB I L Q); replace z := kB z hb; replace A := kB A hb; replace D := kB D hb; replace HB := hS3 HB I L Q hb; clear hb aA; obtain ⟨bT, bU, bV, bW⟩ := bG2 z))
   go_loopg [23] k (fun kq ch w' => ∃ (af : List Int) (E : Int), ch = .int .i64 E ∧ Aside0 (truth_whole_times.l0 kq af F (F.length : Int) E ab F ac G = some (r1, r2)) ∧ Aside0 (kq ≤ k) ∧ Aside0 (Kd.R (Kd.int .u32) 117 w' w.heap.size (fun k_ => (w.heap.size ≤ k_)) a8 af) ∧ Aside0 (w'.heap[am]? = some (.cells #[.bool ab, (.slice ar F.length ag)] 90 (0, 0))) ∧ Aside0 (w'.heap[an]? = some (.cells #[.bool ac, (.slice ah G.length ai)] 90 (0, 0))) ∧ Aside0 (w'.heap[Y]? = some (.cells #[.bool false, (.slice none 0 0)] 90 (0, 0))) ∧ BA w w')
   case atStart => exact ⟨(bC), (0), sI, H', ⟨Nat.le_refl _⟩, ⟨rM bt (fun _ hk => hk.1)⟩, kQ z, kQ A, kQ D, bT3 HB I L Q⟩
   case round =>
    clear H'
    obtain ⟨af, E, rfl, HA, HK1, B, z, A, D, HB⟩ := hrel; cases gk with
    | zero => exact absurd HA.out (by simp [truth_whole_times.l0])
    | succ k1 =>
     have H := HA.out; clear HA; simp only [truth_whole_times.l0] at H
     by_cases av : E < (F.length : Int)
     ·rw [if_pos av] at H; have bu := dT av; clear av
      by_cases aQ : 0 ≤ E
      ·rw [if_pos aQ] at H; have cw := dT aQ; clear aQ
       by_cases aR : E < (F.length : Int)
       ·rw [if_pos aR] at H; have cx := dT aR; clear aR; have H' := aM H; clear H; have aE : 0 ≤ (E : Int) := oT aO; have aF : E < (F.length : Int) := oT aO; obtain ⟨bv, bD, aw⟩ := Kd.at_int bq.out E aE aF; cases bD; replace aw := cX HB aw; replace aE := eq_true aE; replace aF := eq_true aF; have cy := W.out; have cz := U.out; have cA := Z.out; have cB := aa.out; obtain ⟨bX, bY, bZ, b0⟩ := bG2 A
        go_wp2
        go_loopg [8, 31] k1 (fun kq v8 ci w' => ∃ (O : List Int) (ad : Int) (J : Int), v8 = .int .u64 ad ∧ ci = .int .i64 J ∧ Aside0 (truth_whole_times.l1 kq O E (rd F E) ad F (F.length : Int) E G (G.length : Int) J ab F ac G = some (r1, r2)) ∧ Aside0 (kq ≤ k1) ∧ Aside0 (Kd.R (Kd.int .u32) 117 w' w.heap.size (fun k_ => (w.heap.size ≤ k_)) a8 O) ∧ Aside0 (w'.heap[am]? = some (.cells #[.bool ab, (.slice (some bv) F.length ag)] 90 (0, 0))) ∧ Aside0 (w'.heap[an]? = some (.cells #[.bool ac, (.slice ah G.length ai)] 90 (0, 0))) ∧ Aside0 (w'.heap[Y]? = some (.cells #[.bool false, (.slice none 0 0)] 90 (0, 0))) ∧ BA w w')
        case atStart => exact ⟨(af), (0), (0), sI, sI, H', ⟨Nat.le_refl _⟩, rQ B, kQ z, kQ A, kQ D, bT3 HB I L Q⟩
        case round =>
         clear H'
         obtain ⟨O, ad, J, rfl, rfl, HA, HK2, B, z, A, D, HB⟩ := hrel; cases gk with
         | zero => exact absurd HA.out (by simp [truth_whole_times.l1])
         | succ k2 =>
          have H := HA.out; clear HA; simp only [truth_whole_times.l1] at H
          by_cases ax : J < (G.length : Int)
          ·rw [if_pos ax] at H; have bw := dT ax; clear ax
           by_cases aS : 0 ≤ J
           ·rw [if_pos aS] at H; have cC := dT aS; clear aS
            by_cases aT : J < (G.length : Int)
            ·rw [if_pos aT] at H; have cD := dT aT; clear aT; obtain ⟨P, ao⟩ : ∃ j_ : Int, (wrap64 (E + J)) = j_ := ⟨_, rfl⟩
             first | rw [ao] at H | simp only [ao] at H
             have hji26w : (IntKind.i64.wrap (E + J)) = P := (i64_w _).trans ao
             by_cases aU : 0 ≤ (P)
             ·rw [if_pos aU] at H; have cE := dT aU; clear aU
              by_cases aV : (P) < (O.length : Int)
              ·rw [if_pos aV] at H; have cF := dT aV; clear aV; obtain ⟨a9, ap⟩ : ∃ y_ : List Int, y_ = (O.set ((P) : Int).toNat ((IntKind.u64.wrap ((IntKind.u64.wrap ((IntKind.u64.wrap ((IntKind.u64.wrap ((rd F E))) * (IntKind.u64.wrap (rd G J)))) + (IntKind.u64.wrap (rd O (P))))) + ad)) % 4294967296)) := ⟨_, rfl⟩
               first | replace H := rI ap H | rw [← ap] at H
               have bx := aM ap; clear ap; have H' := aM H; clear H; have aG : 0 ≤ (J : Int) := oT aO; have aH : J < (G.length : Int) := oT aO; obtain ⟨cG, bE, ay⟩ := Kd.at_int br.out J aG aH; cases bE; replace ay := cX HB ay; replace aG := eq_true aG; replace aH := eq_true aH; obtain ⟨c2, bF, bG⟩ := sL B; subst bG; have aI : 0 ≤ ((P) : Int) := oT aO; have aJ : (P) < (O.length : Int) := oT aO; obtain ⟨cH, bH, aZ⟩ := Kd.at_int (rR B).2.2 (P) aI aJ; cases bH; replace aI := eq_true aI; replace aJ := eq_true aJ; have ba : 0 ≤ ((P) : Int) := oT aO; have bb : ((P) : Int) < ((O.length : Int) : Int) := oT aO; obtain ⟨go29, c3, bc, bd, gl29, cl29, HG29⟩ := Kd.R_form B.out (by omega)
               (first | cases bc | (injection bc with ea_ en_ ec_; (first | subst ea_ | (injection ea_ with ea_; subst ea_)); subst ec_; clear en_))
               have GB29 := aM bd; have GG29 := aM HG29; clear bd gl29 HG29
               (first | simp only [add_plain] at aZ | skip)
               obtain ⟨cj, hf29_0⟩ := Kd.R_celln 0 B.out ((P) : Int) ba bb; replace ba := eq_true ba; replace bb := eq_true bb; have HP31 := Kd.R_putg B.out ((P) : Int) ((IntKind.u64.wrap ((IntKind.u64.wrap ((IntKind.u64.wrap ((IntKind.u64.wrap ((rd F E))) * (IntKind.u64.wrap (rd G J)))) + (IntKind.u64.wrap (rd O (P))))) + ad)) % 4294967296)
               go_wp2_with (first | ((with_reducible refine gate_store (t := 117) (p := 59) rfl ?_); refine store_event (t := 117) (p := 59) (v := ?vo_w32) (w1 := (wr.setCell ⟨go29, ((P) : Int).toNat, none⟩ (.int .u32 ((IntKind.u64.wrap ((IntKind.u64.wrap ((IntKind.u64.wrap ((IntKind.u64.wrap ((rd F E))) * (IntKind.u64.wrap (rd G J)))) + (IntKind.u64.wrap (rd O (P))))) + ad)) % 4294967296)))) ?hg ?ho ?hn ?hr ?_; (case ho => rfl); (case hg => rfl); (case hn => rfl); (case hr => first | (go_simp; done) | (go_simp; rfl)); intro be hw; have hg : wr.grownBy be (some go29) := (by rw [hw]; exact HP31.2); have hp_ : Kd.R (Kd.int .u32) 117 be w.heap.size (fun k_ => (w.heap.size ≤ k_)) (.slice (some ⟨go29, 0, none⟩) O.length bF) a9 := (by rw [hw, bx.out]; exact HP31.1); clear HP31; replace z := kG z hg B; replace A := kG A hg B; replace D := kG D hg B; replace B := aM (hp_); replace HB := aM ((by rw [hw]; exact below_set (HB.out) GB29.out : Below w.heap.size w be)); clear hg hw hp_))
               go_roundg k2
               case measure => have := HK1.out; have := HK2.out; omega
               case rel => exact ⟨(a9), ((IntKind.u64.wrap ((IntKind.u64.wrap ((IntKind.u64.wrap ((IntKind.u64.wrap ((rd F E))) * (IntKind.u64.wrap (rd G J)))) + (IntKind.u64.wrap (rd O (P))))) + ad)) / 4294967296), (wrap64 (J + 1)), (by first | rfl | (simp; done) | (simp only [← ao] <;> (first | rfl | simp)) | (simp [*]; done)), sI, H', ⟨by have := HK1.out; have := HK2.out; omega⟩, rQ B, kQ z, kQ A, kQ D, bT3 HB I L Q⟩
              ·exact nX aV H
             ·exact nX aU H
            ·exact nX aT H
           ·exact nX aS H
          ·rw [if_neg ax] at H; have bw := decide_eq_false ax; clear ax; obtain ⟨ae, aB⟩ : ∃ j_ : Int, (wrap64 (E + (G.length : Int))) = j_ := ⟨_, rfl⟩
           first | rw [aB] at H | simp only [aB] at H
           have hji33w : (IntKind.i64.wrap (E + (G.length : Int))) = ae := (i64_w _).trans aB
           by_cases aW : 0 ≤ (ae)
           ·rw [if_pos aW] at H; have cI := dT aW; clear aW
            by_cases aX : (ae) < (O.length : Int)
            ·rw [if_pos aX] at H; have cJ := dT aX; clear aX; obtain ⟨bf, aq⟩ : ∃ y_ : List Int, y_ = (O.set ((ae) : Int).toNat ((ad) % 4294967296)) := ⟨_, rfl⟩
             first | replace H := rI aq H | rw [← aq] at H
             have bz := aM aq; clear aq; have H' := aM H; clear H; have cK := W.out; have cL := U.out; have cM := Z.out; have cN := aa.out; obtain ⟨b1, b2, b3, b4⟩ := bG2 A; have bg : 0 ≤ ((ae) : Int) := oT aO; have bh : ((ae) : Int) < ((O.length : Int) : Int) := oT aO; obtain ⟨go36, bI, bi, bj, gl36, cl36, HG36⟩ := Kd.R_form B.out (by omega)
             (first | cases bi | (injection bi with ea_ en_ ec_; (first | subst ea_ | (injection ea_ with ea_; subst ea_)); subst ec_; clear en_))
             have GB36 := aM bj; have GG36 := aM HG36; clear bj gl36 HG36; obtain ⟨ck, hf36_0⟩ := Kd.R_celln 0 B.out ((ae) : Int) bg bh; replace bg := eq_true bg; replace bh := eq_true bh; have HP40 := Kd.R_putg B.out ((ae) : Int) ((ad) % 4294967296)
             go_wp2_with (first | ((with_reducible refine gate_store (t := 117) (p := 69) rfl ?_); refine store_event (t := 117) (p := 69) (v := ?vo_w41) (w1 := (wr.setCell ⟨go36, ((ae) : Int).toNat, none⟩ (.int .u32 ((ad) % 4294967296)))) ?hg ?ho ?hn ?hr ?_; (case ho => rfl); (case hg => rfl); (case hn => rfl); (case hr => first | (go_simp; done) | (go_simp; rfl)); intro bk hw; have hg : wr.grownBy bk (some go36) := (by rw [hw]; exact HP40.2); have hp_ : Kd.R (Kd.int .u32) 117 bk w.heap.size (fun k_ => (w.heap.size ≤ k_)) (.slice (some ⟨go36, 0, none⟩) O.length bI) bf := (by rw [hw, bz.out]; exact HP40.1); clear HP40; replace z := kG z hg B; replace A := kG A hg B; replace D := kG D hg B; replace B := aM (hp_); replace HB := aM ((by rw [hw]; exact below_set (HB.out) GB36.out : Below w.heap.size w bk)); clear hg hw hp_))
             go_roundg k2
             case measure => have := HK1.out; have := HK2.out; omega
             case rel => exact ⟨(bf), (wrap64 (E + 1)), sI, H', ⟨by have := HK1.out; have := HK2.out; omega⟩, rQ B, kQ z, kQ A, kQ D, bT3 HB I L Q⟩
            ·exact nX aX H
           ·exact nX aW H
       ·exact nX aR H
      ·exact nX aQ H
     ·rw [if_neg av] at H; have bu := decide_eq_false av; clear av; replace H := Option.bind_eq_some_iff.mp H; obtain ⟨⟨aC, aD⟩, bl, H⟩ := H; replace H : (some (aC, aD)) = some (r1, r2) := H; have cl := aM bl; clear bl; simp only [Option.some.injEq, Prod.mk.injEq] at H; obtain ⟨rfl, rfl⟩ := H; have cO := U.out; have cP := W.out; have cQ := aj.out; have cR := ak.out; obtain ⟨b5, b6, b7, b8⟩ := bG2 z; have cS := Z.out; have cT := aa.out; obtain ⟨b9, ca, cb, cc⟩ := bG2 A; obtain ⟨bm, bn, bJ⟩ := sL B; subst bJ
      go_wp2_with (first | ((with_reducible refine gate_callee (f := 66) rfl ?_); refine gL_ (some 77) Try.func66 #[.bool (ab != ac), .slice bm af.length bn] ?_; (with_reducible refine (truth_made.calls k1 (ab != ac) (fun k_ => some k_ = (.slice bm af.length bn : Value).ownBlock) _ _ af aC aD _ ?s1 cl.out).mono ?_); (case s1 => exact Kd.R_V (Kd.R_tight rfl (Kd.R_types (Kd.R_types (Kd.R_types (B.out) z.out (by decide)) A.out (by decide)) D.out (by decide)))); rintro e c8 ⟨c6, rfl, bB, hb⟩; refine ⟨_, rfl, ?_⟩; have aY := aM (Kd.V_lower (Kd.V_mono (ok' := fun k_ => (w.heap.size ≤ k_) ∧ k_ ≠ am ∧ k_ ≠ an ∧ k_ ≠ Y) bB (fun k_ hk_ => ⟨Or.elim hk_ (fun hs_ => ((Kd.R_types (Kd.R_types (Kd.R_types (B.out) z.out (by decide)) A.out (by decide)) D.out (by decide)).1 k_ hs_.symm).1.1.1) (fun hn_ => (Nat.le_trans (below_size (bP3 HB I L Q)) hn_)), Or.elim hk_ (fun hs_ => ((Kd.R_types (Kd.R_types (Kd.R_types (B.out) z.out (by decide)) A.out (by decide)) D.out (by decide)).1 k_ hs_.symm).1.1.2) (fun hn_ => (Kd.freshB (g := am) (o := .cells #[.bool ab, .slice ar F.length ag] 90 (0, 0)) (kO z.out) k_ hn_)), Or.elim hk_ (fun hs_ => ((Kd.R_types (Kd.R_types (Kd.R_types (B.out) z.out (by decide)) A.out (by decide)) D.out (by decide)).1 k_ hs_.symm).1.2) (fun hn_ => (Kd.freshB (g := an) (o := .cells #[.bool ac, .slice ah G.length ai] 90 (0, 0)) (kO A.out) k_ hn_)), Or.elim hk_ (fun hs_ => ((Kd.R_types (Kd.R_types (Kd.R_types (B.out) z.out (by decide)) A.out (by decide)) D.out (by decide)).1 k_ hs_.symm).2) (fun hn_ => (Kd.freshB (g := Y) (o := .cells #[.bool false, .slice none 0 0] 90 (0, 0)) (kO D.out) k_ hn_))⟩)) (below_size (bP3 HB I L Q))); replace B := rB B hb; replace z := kB z hb; replace A := kB A hb; replace D := kB D hb; replace HB := hS3 HB I L Q hb; (try clear hb); (try clear bB); obtain ⟨cd, ce, cf, cg⟩ := bG2 D; obtain ⟨bo, bp, bK⟩ := Kd.V_slice aY.out; subst bK))
      refine bodyPost_ret (results_cell_row rfl _ _ Y 90 #[.bool aC, .slice bo aD.length bp] (0, 0) _ rfl (by (with_reducible repeat (first | refine blk_drewN ?_ _ | refine blk_drew ?_ | refine blk_alloc ?_ _)); exact blk_put (blk_put D.out 0 _ rfl) 1 _ rfl) Try.underlying90 rfl (by kernel_rfl)) rfl ?_; exact ⟨_, by first | rfl | (simp [errW_none, errW_some] <;> rfl) | (simp only [← az]; first | rfl | (simp [errW_none, errW_some] <;> rfl)) | (simp [*, errW_none, errW_some] <;> rfl), by (with_reducible repeat (first | apply Kd.V_alloc | apply Kd.V_drewN | apply Kd.V_drew)); exact Kd.V_mono (Kd.V_far (p := ⟨Y, 1, none⟩) (Kd.V_far (p := ⟨Y, 0, none⟩) (Kd.V_mono aY.out (fun k_ hk => (⟨hk, hk.2.2.2⟩ : _ ∧ k_ ≠ Y))) (fun _ hk => hk.2) (.bool aC)) (fun _ hk => hk.2) (.slice bo aD.length bp)) (fun _ hk => hk.1.1), bS3 HB.out I.out L.out Q.out⟩
  ·exact nX c5 H
 ·exact nX c4 H

end Go.Proofs.Ythgoonohpfoagaa.X
namespace Go.Proofs.Ythgoonohpfoagaa.X
open Go.RowKit Go.Proofs.YthgoonohpfoagaaW.PrintWords Go.Proofs.YthgoonohpfoagaaW.PrintLast Go.Proofs.YthgoonohpfoagaaW.PrintMore
attribute [local go_sem] max2_int min2_int max_two min_two max_three min_three max_four min_four
set_option linter.unusedVariables false
set_option linter.unusedSimpArgs false
set_option maxHeartbeats 8000000
set_option maxRecDepth 100000

/-! ### truth_whole_sign: function 44 -/
def truth_whole_sign.f (a0_0 : Bool) (l0_1 : List Int) : Option (Int) := if (l0_1.length : Int) = 0 then (some 0) else (if a0_0 = true then (some (-1)) else (some 1))
theorem truth_whole_sign.calls (F : Bool) (D : Option Addr) (E : Nat) (z : List Int) (r : Int) (w : World) (G : Kd.C (Kd.int .u32) w D z.length z) (I : z.length ≤ E) (h : truth_whole_sign.f F z = some r) :
  Calls Try.prog 44 #[.agg #[.bool F, .slice D z.length E]] w fun e w' => e = .returned (.int .i64 r) ∧ Below w.heap.size w w' := by
 have hu90 := Try.underlying90; have ag := aM G; have ah := aM I; clear G I; have HB := aM (Below.refl w.heap.size w); rw [truth_whole_sign.f] at h; have H := h; clear h
 by_cases M : (z.length : Int) = 0
 ·rw [if_pos M] at H; obtain ⟨P, Q⟩ := bq M; clear M; obtain rfl := Option.some.inj H
  go_enter Try.func44, Try.ntmps44
  go_wp2_with (first | ((with_reducible refine gate_dst (N := 1) rfl ?_); refine be_ (cs := #[.bool F, .slice D z.length E]) (t := 90) ?_; intro J hg w3 hbox hb; have A := aM (hbox); have L := gE hg (bP0 HB); have B := gE hg (bP0 HB); replace HB := hS0 HB hb; clear hb hbox hg; obtain ⟨R, U, V, W⟩ := bG2 A))
  go_ret
  exact ⟨eW, bS1 HB.out B.out⟩
 ·rw [if_neg M] at H; obtain ⟨P, Q⟩ := bn M
  have ai : ¬ (z = []) := fun h_ => M (by rw [h_]; rfl)
  by_cases O : F = true
  ·subst O
   rw [if_pos rfl] at H; obtain rfl := Option.some.inj H
   go_enter Try.func44, Try.ntmps44
   go_wp2_with (first | ((with_reducible refine gate_dst (N := 1) rfl ?_); refine be_ (cs := #[.bool true, .slice D z.length E]) (t := 90) ?_; intro J hg w6 hbox hb; have A := aM (hbox); have L := gE hg (bP0 HB); have B := gE hg (bP0 HB); replace HB := hS0 HB hb; clear hb hbox hg; obtain ⟨Y, Z, aa, ab⟩ := bG2 A))
   go_ret
   exact ⟨eW, bS1 HB.out B.out⟩
  ·replace O := Bool.eq_false_iff.mpr O; subst O
   rw [if_neg nF] at H; obtain rfl := Option.some.inj H
   go_enter Try.func44, Try.ntmps44
   go_wp2_with (first | ((with_reducible refine gate_dst (N := 1) rfl ?_); refine be_ (cs := #[.bool false, .slice D z.length E]) (t := 90) ?_; intro J hg w8 hbox hb; have A := aM (hbox); have L := gE hg (bP0 HB); have B := gE hg (bP0 HB); replace HB := hS0 HB hb; clear hb hbox hg; obtain ⟨ac, ad, ae, af⟩ := bG2 A))
   go_ret
   exact ⟨eW, bS1 HB.out B.out⟩

/-! ### truth_whole_multiple: function 45 -/
mutual
def truth_whole_multiple.l0 : Nat → Int → Int → Int → Bool → List Int → Option (Bool)
 | 0, _, _, _, _, _ => none
 | k + 1, x5, x6, x7, x477000, x477001 => if x7 ≥ 0 then (truth_whole_multiple.l1 k x5 x6 x7 31 x477000 x477001) else (some (x5 == 0))
def truth_whole_multiple.l1 : Nat → Int → Int → Int → Int → Bool → List Int → Option (Bool)
 | 0, _, _, _, _, _, _ => none
 | k + 1, x5, x6, x7, x8, x477000, x477001 => if x8 ≥ 0 then (if 0 ≤ x7 then (if x7 < (x477001.length : Int) then (if 0 ≤ x8 then (if x6 = 0 then (none) else (truth_whole_multiple.l1 k (Int.tmod (IntKind.u64.wrap ((IntKind.u64.wrap (x5 * 2)) + (IntKind.u64.wrap (Go.bits .and .u32 (shr .u32 (rd x477001 x7) x8) 1)))) x6) x6 x7 (wrap64 (x8 - 1)) x477000 x477001)) else (none)) else (none)) else (none)) else (truth_whole_multiple.l0 k x5 x6 (wrap64 (x7 - 1)) x477000 x477001)
end
def truth_whole_multiple.f (k : Nat) (a0_0 : Bool) (l0_1 : List Int) (a1 : Int) : Option (Bool) := truth_whole_multiple.l0 k 0 (IntKind.u64.wrap (a1)) (wrap64 ((l0_1.length : Int) - 1)) a0_0 l0_1
theorem truth_whole_multiple.mono_l : ∀ k, (∀ y0 y1 y2 y3 y4, LeO (truth_whole_multiple.l0 k y0 y1 y2 y3 y4) (truth_whole_multiple.l0 (k + 1) y0 y1 y2 y3 y4)) ∧ (∀ y0 y1 y2 y3 y4 y5, LeO (truth_whole_multiple.l1 k y0 y1 y2 y3 y4 y5) (truth_whole_multiple.l1 (k + 1) y0 y1 y2 y3 y4 y5))
 | 0 => ⟨fun _ _ _ _ _ r h => by simp [truth_whole_multiple.l0] at h, fun _ _ _ _ _ _ r h => by simp [truth_whole_multiple.l1] at h⟩
 | k + 1 => by
  obtain ⟨ih0, ih1⟩ := truth_whole_multiple.mono_l k; refine ⟨?_, ?_⟩
  ·intro y0 y1 y2 y3 y4
   unfold truth_whole_multiple.l0
   repeat' first | (with_reducible first | exact ih0 _ _ _ _ _ | exact ih1 _ _ _ _ _ _ | exact lA | apply lI | refine lB ?_ fun _ => ?_) | exact lN _ | apply lI | refine lB ?_ fun _ => ?_
  ·intro y0 y1 y2 y3 y4 y5
   unfold truth_whole_multiple.l1
   repeat' first | (with_reducible first | exact ih0 _ _ _ _ _ | exact ih1 _ _ _ _ _ _ | exact lA | apply lI | refine lB ?_ fun _ => ?_) | exact lN _ | apply lI | refine lB ?_ fun _ => ?_
theorem truth_whole_multiple.mono : ∀ a0 a1 a2 k, LeO (truth_whole_multiple.f k a0 a1 a2) (truth_whole_multiple.f (k + 1) a0 a1 a2) := by
 intro a0 a1 a2 k; obtain ⟨ih0, ih1⟩ := truth_whole_multiple.mono_l k
 unfold truth_whole_multiple.f
 repeat' first | (with_reducible first | exact ih0 _ _ _ _ _ | exact ih1 _ _ _ _ _ _ | exact lA | apply lI | refine lB ?_ fun _ => ?_) | exact lN _ | apply lI | refine lB ?_ fun _ => ?_
theorem truth_whole_multiple.calls (k : Nat) (E : Bool) (I : Option Addr) (J : Nat) (z : List Int) (Y : Int) (r : Bool) (w : World) (U : Kd.C (Kd.int .u32) w I z.length z) (V : z.length ≤ J) (h : truth_whole_multiple.f k E z Y = some r) :
  Calls Try.prog 45 #[.agg #[.bool E, .slice I z.length J], .int .i64 Y] w fun e w' => e = .returned (.bool r) ∧ Below w.heap.size w w' := by
 have hu90 := Try.underlying90; have ad := aM U; have av := aM V; clear U V; have HB := aM (Below.refl w.heap.size w); rw [truth_whole_multiple.f] at h; have H := h; clear h; have H' := aM H; clear H
 go_enter Try.func45, Try.ntmps45
 go_wp2_with (first | ((with_reducible refine gate_dst (N := 2) rfl ?_); refine be_ (cs := #[.bool E, .slice I z.length J]) (t := 90) ?_; intro W hg w3 hbox hb; have B := aM (hbox); have aw := gE hg (bP0 HB); have F := gE hg (bP0 HB); replace HB := hS0 HB hb; clear hb hbox hg; obtain ⟨ao, ap, aq, ar⟩ := bG2 B))
 go_loopg [5, 7] k (fun kq v5 v7 w' => ∃ (O : Int) (A : Int), v5 = .int .u64 O ∧ v7 = .int .i64 A ∧ Aside0 (truth_whole_multiple.l0 kq O (IntKind.u64.wrap (Y)) A E z = some r) ∧ Aside0 (kq ≤ k) ∧ Aside0 (w'.heap[W]? = some (.cells #[.bool E, (.slice I z.length J)] 90 (0, 0))) ∧ BA w w')
 case atStart => exact ⟨(0), (wrap64 ((z.length : Int) - 1)), sI, sI, H', ⟨Nat.le_refl _⟩, kQ B, bT1 HB F⟩
 case round =>
  clear H'
  obtain ⟨O, A, rfl, rfl, HA, HK1, B, HB⟩ := hrel; cases gk with
  | zero => exact absurd HA.out (by simp [truth_whole_multiple.l0])
  | succ k1 =>
   have H := HA.out; clear HA; simp only [truth_whole_multiple.l0] at H
   by_cases Z : A ≥ 0
   ·rw [if_pos Z] at H; have ah := dT Z; clear Z; have H' := aM H; clear H
    go_wp2
    go_loopg [5, 8] k1 (fun kq v5 v8 w' => ∃ (L : Int) (D : Int), v5 = .int .u64 L ∧ v8 = .int .i64 D ∧ Aside0 (truth_whole_multiple.l1 kq L (IntKind.u64.wrap (Y)) A D E z = some r) ∧ Aside0 (kq ≤ k1) ∧ Aside0 (w'.heap[W]? = some (.cells #[.bool E, (.slice I z.length J)] 90 (0, 0))) ∧ BA w w')
    case atStart => exact ⟨(O), (31), sI, sI, H', ⟨Nat.le_refl _⟩, kQ B, bT1 HB F⟩
    case round =>
     clear H'
     obtain ⟨L, D, rfl, rfl, HA, HK2, B, HB⟩ := hrel; cases gk with
     | zero => exact absurd HA.out (by simp [truth_whole_multiple.l1])
     | succ k2 =>
      have H := HA.out; clear HA; simp only [truth_whole_multiple.l1] at H
      by_cases c6 : D ≥ 0
      ·rw [if_pos c6] at H; have ai := dT c6; clear c6
       by_cases c7 : 0 ≤ A
       ·rw [if_pos c7] at H; have aC := dT c7; clear c7
        by_cases c8 : A < (z.length : Int)
        ·rw [if_pos c8] at H; have aD := dT c8; clear c8
         by_cases c9 : 0 ≤ D
         ·rw [if_pos c9] at H; have aE := eq_true c9; have aF := dT c9; clear c9; obtain ⟨P, G⟩ : ∃ j_ : Int, (shr .u32 (rd z A) D) = j_ := ⟨_, rfl⟩
          first | rw [G] at H | simp only [G] at H
          have au : ((rd z A) / 2 ^ min D.toNat 32) = P := G; have hji10z : D ≤ 32 → ((rd z A) / 2 ^ D.toNat) = P := shr_small G
          by_cases ac : (IntKind.u64.wrap (Y)) = 0
          ·rw [if_pos ac] at H; exact absurd H (by simp)
          ·rw [if_neg ac] at H; obtain ⟨ax, ay⟩ := bn ac; have H' := aM H; clear H; obtain ⟨ak, al, am, an⟩ := bG2 B; have Q : 0 ≤ (A : Int) := oT aO; have R : A < (z.length : Int) := oT aO; obtain ⟨az, aj, M⟩ := Kd.at_int ad.out A Q R; cases aj; replace M := cX HB M; replace Q := eq_true Q; replace R := eq_true R
           go_wp2
           go_roundg k2
           case measure => have := HK1.out; have := HK2.out; omega
           case rel => exact ⟨(Int.tmod (IntKind.u64.wrap ((IntKind.u64.wrap (L * 2)) + (IntKind.u64.wrap (Go.bits .and .u32 (P) 1)))) (IntKind.u64.wrap (Y))), (wrap64 (D - 1)), (by first | rfl | (simp; done) | (simp only [← G] <;> (first | rfl | simp)) | (simp [*]; done)), sI, H', ⟨by have := HK1.out; have := HK2.out; omega⟩, kQ B, bT1 HB F⟩
         ·exact nX c9 H
        ·exact nX c8 H
       ·exact nX c7 H
      ·rw [if_neg c6] at H; have ai := decide_eq_false c6; clear c6; have H' := aM H; clear H
       go_wp2
       go_roundg k2
       case measure => have := HK1.out; have := HK2.out; omega
       case rel => exact ⟨(L), (wrap64 (A - 1)), sI, sI, H', ⟨by have := HK1.out; have := HK2.out; omega⟩, kQ B, bT1 HB F⟩
   ·rw [if_neg Z] at H; have ah := decide_eq_false Z; clear Z; obtain rfl := Option.some.inj H
    go_wp2
    go_ret
    exact ⟨eW, bS1 HB.out F.out⟩

end Go.Proofs.Ythgoonohpfoagaa.X
namespace Go.Proofs.Ythgoonohpfoagaa.X
open Go.RowKit Go.Proofs.YthgoonohpfoagaaW.PrintWords Go.Proofs.YthgoonohpfoagaaW.PrintLast Go.Proofs.YthgoonohpfoagaaW.PrintMore
attribute [local go_sem] max2_int min2_int max_two min_two max_three min_three max_four min_four
set_option linter.unusedVariables false
set_option linter.unusedSimpArgs false
set_option maxHeartbeats 8000000
set_option maxRecDepth 100000

/-! ### truth_Normal: function 23 -/
mutual
def truth_Normal.j0 : Nat → List Int → Bool → Int → List ByteArray → List Int → Int → Int → Option (Bool × Int)
 | 0, _, _, _, _, _, _, _ => none
 | k + 1, x1, x19, x479000, x479001, x479002, x479003, x479004 => if x19 = true then (some (false, 3)) else ((truth_of.f k x479003).bind fun bt480 => ((truth_whole_minus.f k bt480.1 bt480.2).bind fun bt484 => (truth_Normal.l0 k x1 x479002 (x479002.length : Int) 0 x479000 x479001 x479002 x479003 x479004 bt484.1 bt484.2)))
def truth_Normal.l0 : Nat → List Int → List Int → Int → Int → Int → List ByteArray → List Int → Int → Int → Bool → List Int → Option (Bool × Int)
 | 0, _, _, _, _, _, _, _, _, _, _, _ => none
 | k + 1, x1, x25, x26, x27, x479000, x479001, x479002, x479003, x479004, x489000, x489001 => if x27 < x26 then (if 0 ≤ x27 then (if x27 < (x25.length : Int) then ((truth_of.f k (rd x25 x27)).bind fun bt490 => (if x27 < (x1.length : Int) then ((truth_of.f k (rd x1 x27)).bind fun bt495 => ((truth_whole_times.f k bt490.1 bt490.2 bt495.1 bt495.2).bind fun bt499 => ((truth_whole_plus.f k x489000 x489001 bt499.1 bt499.2).bind fun bt503 => (truth_Normal.l0 k x1 x25 x26 (wrap64 (x27 + 1)) x479000 x479001 x479002 x479003 x479004 bt503.1 bt503.2)))) else (none))) else (none)) else (none)) else (if x479000 = 0 then ((truth_whole_sign.f x489000 x489001).bind fun t507 => (some (decide (t507 ≤ 0), 0))) else (if x479000 = 1 then ((truth_whole_sign.f x489000 x489001).bind fun t508 => (some ((t508 == 0), 0))) else ((truth_whole_multiple.f k x489000 x489001 x479004).bind fun t509 => (some (t509, 0)))))
end
def truth_Normal.f (k : Nat) (a0_0 : Int) (l0_1 : List ByteArray) (l0_2 : List Int) (a0_3 : Int) (a0_4 : Int) (l1 : List Int) : Option (Bool × Int) := (norm_Check.f k a0_0 l0_1 l0_2 a0_3 a0_4).bind fun t479 => (if t479 = 0 then (truth_Normal.j0 k l1 ((l1.length : Int) != (l0_1.length : Int)) a0_0 l0_1 l0_2 a0_3 a0_4) else (truth_Normal.j0 k l1 true a0_0 l0_1 l0_2 a0_3 a0_4))
theorem truth_Normal.mono_l : ∀ k, (∀ y0 y1 y2 y3 y4 y5 y6, LeO (truth_Normal.j0 k y0 y1 y2 y3 y4 y5 y6) (truth_Normal.j0 (k + 1) y0 y1 y2 y3 y4 y5 y6)) ∧ (∀ y0 y1 y2 y3 y4 y5 y6 y7 y8 y9 y10, LeO (truth_Normal.l0 k y0 y1 y2 y3 y4 y5 y6 y7 y8 y9 y10) (truth_Normal.l0 (k + 1) y0 y1 y2 y3 y4 y5 y6 y7 y8 y9 y10))
 | 0 => ⟨fun _ _ _ _ _ _ _ r h => by simp [truth_Normal.j0] at h, fun _ _ _ _ _ _ _ _ _ _ _ r h => by simp [truth_Normal.l0] at h⟩
 | k + 1 => by
  obtain ⟨ih0, ih1⟩ := truth_Normal.mono_l k; refine ⟨?_, ?_⟩
  ·intro y0 y1 y2 y3 y4 y5 y6
   unfold truth_Normal.j0
   repeat' first | (with_reducible first | exact ih0 _ _ _ _ _ _ _ | exact ih1 _ _ _ _ _ _ _ _ _ _ _ | exact norm_Check.mono _ _ _ _ _ _ | exact truth_of.mono _ _ | exact truth_whole_minus.mono _ _ _ | exact truth_whole_multiple.mono _ _ _ _ | exact truth_whole_plus.mono _ _ _ _ _ | exact truth_whole_times.mono _ _ _ _ _ | exact lA | apply lI | refine lB ?_ fun _ => ?_) | exact lN _ | apply lI | refine lB ?_ fun _ => ?_
  ·intro y0 y1 y2 y3 y4 y5 y6 y7 y8 y9 y10
   unfold truth_Normal.l0
   repeat' first | (with_reducible first | exact ih0 _ _ _ _ _ _ _ | exact ih1 _ _ _ _ _ _ _ _ _ _ _ | exact norm_Check.mono _ _ _ _ _ _ | exact truth_of.mono _ _ | exact truth_whole_minus.mono _ _ _ | exact truth_whole_multiple.mono _ _ _ _ | exact truth_whole_plus.mono _ _ _ _ _ | exact truth_whole_times.mono _ _ _ _ _ | exact lA | apply lI | refine lB ?_ fun _ => ?_) | exact lN _ | apply lI | refine lB ?_ fun _ => ?_
theorem truth_Normal.mono : ∀ a0 a1 a2 a3 a4 a5 k, LeO (truth_Normal.f k a0 a1 a2 a3 a4 a5) (truth_Normal.f (k + 1) a0 a1 a2 a3 a4 a5) := by
 intro a0 a1 a2 a3 a4 a5 k; obtain ⟨ih0, ih1⟩ := truth_Normal.mono_l k
 unfold truth_Normal.f
 repeat' first | (with_reducible first | exact ih0 _ _ _ _ _ _ _ | exact ih1 _ _ _ _ _ _ _ _ _ _ _ | exact norm_Check.mono _ _ _ _ _ _ | exact truth_of.mono _ _ | exact truth_whole_minus.mono _ _ _ | exact truth_whole_multiple.mono _ _ _ _ | exact truth_whole_plus.mono _ _ _ _ _ | exact truth_whole_times.mono _ _ _ _ _ | exact lA | apply lI | refine lB ?_ fun _ => ?_) | exact lN _ | apply lI | refine lB ?_ fun _ => ?_
def truth_Normal.T7 : Bool × List (List Nat × List Nat) := (true, [([], []), ([], []), ([1], [1]), ([], []), ([], []), ([3, 4], [3, 4]), ([5], [5]), ([6, 2], [6]), ([2, 7, 7], [2, 7]), ([0, 8, 8], [0, 8]), ([9, 9, 0, 1, 2, 3, 4, 5, 6, 7, 8, 9], [9])])
def truth_Normal.B7 : List Nat := [0, 0, 2, 0, 0, 24, 56, 126, 254, 511, 1023]
theorem truth_Normal.tab7 : rtab .any (opsOf Try.f23 7) = truth_Normal.T7 := by kernel_rfl
theorem truth_Normal.bits7 : waitsOk truth_Normal.T7.2 truth_Normal.B7 = true := by kernel_rfl
theorem truth_Normal.calls (k : Nat) (M : Int) (Z : Option Addr) (aa : Nat) (L : List ByteArray) (aj : Option Addr) (ab : Nat) (E : List Int) (O : Int) (P : Int) (A1 : Option Addr) (c1 : Nat) (l1 : List Int) (r1 : Bool) (r2 : Int) (w : World) (a7 : Kd.C Kd.string w Z L.length L) (a8 : L.length ≤ aa) (a9 : Kd.C (Kd.int .i64) w aj E.length E) (ba : E.length ≤ ab) (bQ : Kd.C (Kd.int .i64) w A1 l1.length l1) (bR : l1.length ≤ c1) (h : truth_Normal.f k M L E O P l1 = some (r1, r2)) :
  Calls Try.prog 23 #[.agg #[.int .i64 M, .slice Z L.length aa, .slice aj E.length ab, .int .i64 O, .int .i64 P], .slice A1 l1.length c1] w fun e w' => e = .returned (.tuple #[.bool r1, .int .i64 r2]) ∧ Below w.heap.size w w' := by
 have hu26 := Try.underlying26; have hu90 := Try.underlying90; have bb := aM a7; have bc := aM a8; clear a7 a8; have aH := aM a9; have bd := aM ba; clear a9 ba; have dH := aM bQ; have ez := aM bR; clear bQ bR; have HB := aM (Below.refl w.heap.size w); rw [truth_Normal.f] at h; have H := h; clear h; have bm := aM H; clear H
 go_enter Try.func23, Try.ntmps23
 go_upto_region 1 with (first | ((with_reducible refine gate_dst (N := 2) rfl ?_); (try (refine gate_guard (by rfl) ?_; dsimp only)); refine be_ (cs := #[.int .i64 M, .slice Z L.length aa, .slice aj E.length ab, .int .i64 O, .int .i64 P]) (t := 26) ?_; intro Q hg w4 hbox hb; have A := aM (hbox); have ef := gE hg (bP0 HB); have G := gE hg (bP0 HB); replace HB := hS0 HB hb; clear hb hbox hg))
 (try simp only [Act.put, sA, sB, sC])
 go_cut [19] (fun dI wc => ∃ (kq : Nat) (au : Bool), dI = .bool au ∧ Aside0 (truth_Normal.j0 kq l1 au M L E O P = some (r1, r2)) ∧ Aside0 (kq ≤ k) ∧ Aside0 (wc.heap[Q]? = some (.cells #[.int .i64 M, (.slice Z L.length aa), (.slice aj E.length ab), .int .i64 O, .int .i64 P] 26 (0, 0))) ∧ BA w wc)
 case first =>
  have H := bm.out; clear bm; replace H := Option.bind_eq_some_iff.mp H; obtain ⟨aU, bS, H⟩ := H; have A5 := aM bS; clear bS
  by_cases c6 : aU = 0
  ·rw [if_pos c6] at H; obtain ⟨ax, bU⟩ := bq c6; clear c6
   (first | rw [ax] | (simp only [i64_w, i32_w]; rw [ax]) | skip)
   have H' := aM H; clear H; obtain ⟨dK, dL, dM, dN, dO, dP, dQ, dR, dS, dU⟩ := bG5 A
   go_wp2_with (first | ((with_reducible refine gate_callee (f := 24) rfl ?_); refine gL_ (some 10) Try.func24 #[.agg #[.int .i64 M, .slice Z L.length aa, .slice aj E.length ab, .int .i64 O, .int .i64 P]] ?_; (with_reducible refine (norm_Check.calls k M _ _ L _ _ E O P aU _ ?s1 bc.out ?s3 bd.out A5.out).mono ?_); (case s1 => exact cB bb HB); (case s3 => exact cB aH HB); rintro e w8 ⟨rfl, hb⟩; refine ⟨_, rfl, ?_⟩; replace A := kB A hb; replace HB := hS1 HB G hb; (try clear hb); obtain ⟨dV, dW, dX, dY, dZ, d0, d1, d2, d3, d4⟩ := bG5 A))
   go_meet
   case rel => exact ⟨_, (((l1.length : Int) != (L.length : Int))), sI, H', ⟨by first | omega | exact Nat.le_refl _⟩, kQ A, bT1 HB G⟩
  ·rw [if_neg c6] at H; obtain ⟨ax, bU⟩ := bn c6
   (first | rw [ax] | (simp only [i64_w, i32_w]; rw [ax]) | skip)
   have H' := aM H; clear H; obtain ⟨cj, ck, cl, cm, cn, co, cp, cq, cr, ct⟩ := bG5 A
   go_wp2_with (first | ((with_reducible refine gate_callee (f := 24) rfl ?_); refine gL_ (some 10) Try.func24 #[.agg #[.int .i64 M, .slice Z L.length aa, .slice aj E.length ab, .int .i64 O, .int .i64 P]] ?_; (with_reducible refine (norm_Check.calls k M _ _ L _ _ E O P aU _ ?s1 bc.out ?s3 bd.out A5.out).mono ?_); (case s1 => exact cB bb HB); (case s3 => exact cB aH HB); rintro e eA ⟨rfl, hb⟩; refine ⟨_, rfl, ?_⟩; replace A := kB A hb; replace HB := hS1 HB G hb; (try clear hb)))
   go_meet
   case rel => exact ⟨_, (true), sI, H', ⟨by first | omega | exact Nat.le_refl _⟩, kQ A, bT1 HB G⟩
 case rest =>
  clear bm
  obtain ⟨kq, au, rfl, HA, HJ2, A, HB⟩ := hcut; cases kq with
  | zero => exact absurd HA.out (by simp [truth_Normal.j0])
  | succ ay =>
   have H := HA.out; clear HA; simp only [truth_Normal.j0] at H
   by_cases be : au = true
   ·subst be
    rw [if_pos rfl] at H; simp only [Option.some.injEq, Prod.mk.injEq] at H; obtain ⟨rfl, rfl⟩ := H
    go_wp2
    go_ret2
    exact ⟨eW, bS1 HB.out G.out⟩
   ·replace be := Bool.eq_false_iff.mpr be; subst be
    rw [if_neg nF] at H; replace H := Option.bind_eq_some_iff.mp H; obtain ⟨⟨aI, aJ⟩, bp, H⟩ := H; replace H : ((truth_whole_minus.f ay aI aJ).bind fun bf => (truth_Normal.l0 ay l1 E (E.length : Int) 0 M L E O P bf.1 bf.2)) = some (r1, r2) := H; have d5 := aM bp; clear bp; replace H := Option.bind_eq_some_iff.mp H; obtain ⟨⟨aK, az⟩, br, H⟩ := H; replace H : (truth_Normal.l0 ay l1 E (E.length : Int) 0 M L E O P aK az) = some (r1, r2) := H; have d6 := aM br; clear br; have H' := aM H; clear H; obtain ⟨cu, cv, cw, cx, cy, cz, cA, cC, cD, cE⟩ := bG5 A
    go_wp2_with (first | ((with_reducible refine gate_callee (f := 40) rfl ?_); refine gL_ (some 22) Try.func40 #[.int .i64 O] ?_; (with_reducible refine (truth_of.calls ay O aI aJ _ d5.out).mono ?_); rintro e eB ⟨et, rfl, ad, hb⟩; refine ⟨_, rfl, ?_⟩; have al := aM (Kd.V_lower (Kd.V_mono (ok' := fun k_ => k_ ≠ Q) ad (fun k_ hk_ => (Kd.freshB (g := Q) (o := .cells #[.int .i64 M, .slice Z L.length aa, .slice aj E.length ab, .int .i64 O, .int .i64 P] 26 (0, 0)) (kO A.out) k_ hk_))) (below_size (bP1 HB G))); replace A := kB A hb; replace HB := hS1 HB G hb; (try clear hb); (try clear ad); obtain ⟨bV, bW, bX⟩ := Kd.V_slice al.out; subst bX) | ((with_reducible refine gate_callee (f := 41) rfl ?_); refine gL_ (some 23) Try.func41 #[.agg #[.bool aI, .slice bV aJ.length bW]] ?_; (with_reducible refine (truth_whole_minus.calls ay aI (fun k_ => k_ ≠ Q) _ _ aJ aK az _ ?s1 d6.out).mono ?_); (case s1 => exact al.out); rintro e eC ⟨eu, rfl, ad, hb⟩; refine ⟨_, rfl, ?_⟩; replace al := aM (Kd.V_below (vO al.out) hb); have av := aM (Kd.V_lower (Kd.V_mono (ok' := fun k_ => k_ ≠ Q) ad (fun k_ hk_ => Or.elim hk_ (fun hs_ => hs_) (fun hn_ => (Kd.freshB (g := Q) (o := .cells #[.int .i64 M, .slice Z L.length aa, .slice aj E.length ab, .int .i64 O, .int .i64 P] 26 (0, 0)) (kO A.out) k_ hn_)))) (below_size (bP1 HB G))); replace A := kB A hb; replace HB := hS1 HB G hb; (try clear hb); (try clear ad)) | ((with_reducible refine gate_dst (N := 6) rfl ?_); (try (refine gate_guard (by rfl) ?_; dsimp only)); refine be_ (cs := #[.bool false, .slice none 0 0]) (t := 90) ?_; intro J hg eD hbox hb; replace al := aM (Kd.V_below (Kd.V_elderB (vO al.out) J (Nat.le_of_eq hg.symm)) hb); replace av := aM (Kd.V_below (Kd.V_elderB (vO av.out) J (Nat.le_of_eq hg.symm)) hb); have B := aM (hbox); have eg := gE hg (bP1 HB G); have R := gE hg (bP1 HB G); replace HB := hS1 HB G hb; have U := nL hg A; have Y := nG hg A; replace A := kB A hb; clear hb hbox hg; have eh := Y.out; have ei := U.out; obtain ⟨cF, cG, cH, cI⟩ := bG2 B; obtain ⟨bs, bt, bY⟩ := Kd.V_slice av.out; subst bY; obtain ⟨cJ, cK, cL, cM, cN, cP, cQ, cR, cS, cT⟩ := bG5 A))
    go_loopg [27] ay (fun kq d7 w' => ∃ (I : Int) (D : Bool) (F : List Int) (ac : Value), d7 = .int .i64 I ∧ Aside0 (truth_Normal.l0 kq l1 E (E.length : Int) I M L E O P D F = some (r1, r2)) ∧ Aside0 (kq ≤ ay) ∧ Aside0 (Kd.V (Kd.int .u32) 117 w' w.heap.size (fun k_ => k_ ≠ Q ∧ k_ ≠ J) ac F) ∧ Aside0 (w'.heap[Q]? = some (.cells #[.int .i64 M, (.slice Z L.length aa), (.slice aj E.length ab), .int .i64 O, .int .i64 P] 26 (0, 0))) ∧ Aside0 (w'.heap[J]? = some (.cells #[.bool D, ac] 90 (0, 0))) ∧ BA w w')
    case atStart => exact ⟨(0), (aK), (az), (.slice bs az.length bt), sI, H', ⟨Nat.le_refl _⟩, ⟨by (with_reducible repeat (first | apply Kd.V_alloc | apply Kd.V_drewN | apply Kd.V_drew)); exact Kd.V_mono (Kd.V_far (p := ⟨J, 1, none⟩) (Kd.V_far (p := ⟨J, 0, none⟩) (Kd.V_mono av.out (fun k_ hk => (⟨hk, hk.2⟩ : _ ∧ k_ ≠ J))) (fun _ hk => hk.2) (.bool aK)) (fun _ hk => hk.2) (.slice bs az.length bt)) (fun _ hk => ⟨hk.1.1, hk.1.2⟩)⟩, ⟨kN A U⟩, ⟨by (with_reducible repeat (first | refine blk_drewN ?_ _ | refine blk_drew ?_ | refine blk_alloc ?_ _)); exact blk_put (blk_put B.out 0 _ rfl) 1 _ rfl⟩, bT2 HB G R⟩
    case round =>
     clear H'
     obtain ⟨I, D, F, ac, rfl, HA, HK2, z, A, B, HB⟩ := hrel; cases gk with
     | zero => exact absurd HA.out (by simp [truth_Normal.l0])
     | succ k2 =>
      have H := HA.out; clear HA; simp only [truth_Normal.l0] at H
      by_cases aF : I < (E.length : Int)
      ·rw [if_pos aF] at H; have bK := dT aF; clear aF
       by_cases bg : 0 ≤ I
       ·rw [if_pos bg] at H; have ej := dT bg; clear bg
        by_cases bh : I < (E.length : Int)
        ·rw [if_pos bh] at H; have ek := dT bh; clear bh; replace H := Option.bind_eq_some_iff.mp H; obtain ⟨⟨aA, aB⟩, bu, H⟩ := H; replace H : (if I < (l1.length : Int) then ((truth_of.f k2 (rd l1 I)).bind fun bi => ((truth_whole_times.f k2 aA aB bi.1 bi.2).bind fun an => ((truth_whole_plus.f k2 D F an.1 an.2).bind fun af => (truth_Normal.l0 k2 l1 E (E.length : Int) (wrap64 (I + 1)) M L E O P af.1 af.2)))) else (none)) = some (r1, r2) := H; have d8 := aM bu; clear bu
         by_cases bj : I < (l1.length : Int)
         ·rw [if_pos bj] at H; have el := dT bj; clear bj; replace H := Option.bind_eq_some_iff.mp H; obtain ⟨⟨aL, aN⟩, bv, H⟩ := H; replace H : ((truth_whole_times.f k2 aA aB aL aN).bind fun an => ((truth_whole_plus.f k2 D F an.1 an.2).bind fun af => (truth_Normal.l0 k2 l1 E (E.length : Int) (wrap64 (I + 1)) M L E O P af.1 af.2))) = some (r1, r2) := H; have d9 := aM bv; clear bv; replace H := Option.bind_eq_some_iff.mp H; obtain ⟨⟨aP, aQ⟩, bw, H⟩ := H; replace H : ((truth_whole_plus.f k2 D F aP aQ).bind fun af => (truth_Normal.l0 k2 l1 E (E.length : Int) (wrap64 (I + 1)) M L E O P af.1 af.2)) = some (r1, r2) := H; have ea := aM bw; clear bw; replace H := Option.bind_eq_some_iff.mp H; obtain ⟨⟨aR, aC⟩, bx, H⟩ := H; replace H : (truth_Normal.l0 k2 l1 E (E.length : Int) (wrap64 (I + 1)) M L E O P aR aC) = some (r1, r2) := H; have eb := aM bx; clear bx; have H' := aM H; clear H; have aV : 0 ≤ (I : Int) := oT aO; have aW : I < (E.length : Int) := oT aO; obtain ⟨aw, bZ, aG⟩ := Kd.at_int aH.out I aV aW; cases bZ; replace aG := cX HB aG; replace aV := eq_true aV; replace aW := eq_true aW
          try go_wp2
          replace z := aM (Kd.V_drew z.out); replace A := kD A; replace B := kD B; replace HB := aM (below_drew1 HB.out); have aX : 0 ≤ (I : Int) := oT aO; have aY : I < (l1.length : Int) := oT aO; obtain ⟨bL, b0, am⟩ := Kd.at_int dH.out I aX aY; have W := am; cases b0; replace am := cX HB am; replace aX := eq_true aX; replace aY := eq_true aY; refine start_ (n := 11) (S := fun w' => w'.cell? ⟨J, 0, none⟩ = some (.bool D) ∧ w'.cell? ⟨J, 1, none⟩ = some (ac) ∧ w'.cell? (bL.add (I).toNat) = some (.int .i64 (rd l1 I))) (ds := [10]) (bl 11 0) (by kernel_rfl) rfl rfl ⟨(blk_cell B.out 0).trans rfl, (blk_cell B.out 1).trans rfl, ((HB.out.cell (World.block_lt_of_cell? w _ W)).trans W)⟩ (fun hHeld => ?_); refine with_tabW truth_Normal.tab7 truth_Normal.bits7 (fun HT_ HW_ => ?_); generalize wr.drew = eE at z A B HB am hHeld ⊢; refine pu_ 1 33 (bl 11 2) HT_ ?_; refine pu_ 3 35 (bl 11 10) HT_ ?_; refine pu_ 4 36 (bl 11 26) HT_ ?_; refine pu_ 5 37 (bl 11 58) HT_ ?_; refine tk3_ 0 32 (bl 11 59) HT_ HW_ hHeld ?_; refine tk3_ 6 38 (bl 11 123) HT_ HW_ hHeld ?_; refine one_ (i := 2) (N := some 34) (bl 11 127) rfl rfl (one_of HT_.out (by kernel_rfl)) (by decide) (fun K hK => ?_); refine gS_ Try.func40 #[.int .i64 (rd E I)] ?_
          with_reducible refine (truth_of.calls k2 (rd E I) aA aB _ d8.out).mono ?_
          rintro e eF ⟨ev, rfl, ad, hb⟩; refine ⟨_, rfl, ?_⟩; replace z := aM (Kd.V_below (vO z.out) hb); have ae := aM (Kd.V_lower (Kd.V_mono (ok' := fun k_ => k_ ≠ Q ∧ k_ ≠ J) ad (fun k_ hk_ => ⟨(Kd.freshB (g := Q) (o := .cells #[.int .i64 M, .slice Z L.length aa, .slice (some aw) E.length ab, .int .i64 O, .int .i64 P] 26 (0, 0)) (kO A.out) k_ hk_), (Kd.freshB (g := J) (o := .cells #[.bool D, ac] 90 (0, 0)) (kO B.out) k_ hk_)⟩)) (below_size (bP2 HB G R))); replace A := kB A hb; replace B := kB B hb; replace HB := hS2 HB G R hb
          (try clear hb)
          (try clear bz)
          (try clear hk)
          (try clear hi)
          (try clear ad)
          refine hK.out _ _ ⟨(blk_cell B.out 0).trans rfl, (blk_cell B.out 1).trans rfl, ((HB.out.cell (World.block_lt_of_cell? w _ W)).trans W)⟩ (fun hHeld => ?_); clear hK K; refine nm_ 34 ?_; refine one_ (i := 7) (N := some 39) (bl 11 255) rfl rfl (one_of HT_.out (by kernel_rfl)) (by decide) (fun K hK => ?_); refine gS_ Try.func40 #[.int .i64 (rd l1 I)] ?_
          with_reducible refine (truth_of.calls k2 (rd l1 I) aL aN _ d9.out).mono ?_
          rintro e eG ⟨ew, rfl, ad, hb⟩; refine ⟨_, rfl, ?_⟩; replace z := aM (Kd.V_below (vO z.out) hb); replace ae := aM (Kd.V_below (vO ae.out) hb); have ak := aM (Kd.V_lower (Kd.V_mono (ok' := fun k_ => k_ ≠ Q ∧ k_ ≠ J) ad (fun k_ hk_ => ⟨(Kd.freshB (g := Q) (o := .cells #[.int .i64 M, .slice Z L.length aa, .slice (some aw) E.length ab, .int .i64 O, .int .i64 P] 26 (0, 0)) (kO A.out) k_ hk_), (Kd.freshB (g := J) (o := .cells #[.bool D, ac] 90 (0, 0)) (kO B.out) k_ hk_)⟩)) (below_size (bP2 HB G R))); replace A := kB A hb; replace B := kB B hb; replace HB := hS2 HB G R hb
          (try clear hb)
          (try clear bz)
          (try clear hk)
          (try clear hi)
          (try clear ad)
          obtain ⟨b1, b2, bA⟩ := Kd.V_slice ae.out
          (first | subst bA | (injection bA with ag ao ah; have ap := ag.symm; have aq := ah.symm; clear ag ao ah; subst ap; subst aq))
          obtain ⟨b3, b4, bB⟩ := Kd.V_slice ak.out
          (first | subst bB | (injection bB with ag ao ah; have ap := ag.symm; have aq := ah.symm; clear ag ao ah; subst ap; subst aq))
          refine hK.out _ _ ⟨(blk_cell B.out 0).trans rfl, (blk_cell B.out 1).trans rfl, ((HB.out.cell (World.block_lt_of_cell? w _ W)).trans W)⟩ (fun hHeld => ?_); clear hK K; refine nm_ 39 ?_; refine one_ (i := 8) (N := some 40) (bl 11 511) rfl rfl (one_of HT_.out (by kernel_rfl)) (by decide) (fun K hK => ?_); refine gS_ Try.func43 #[.agg #[.bool aA, .slice b1 aB.length b2], .agg #[.bool aL, .slice b3 aN.length b4]] ?_
          with_reducible refine (truth_whole_times.calls k2 aA _ _ aB aL _ _ aN aP aQ _ ?s1 ?s2 ?s3 ?s4 ea.out).mono ?_
          (case s1 => exact cO (Kd.V_reads' ae.out).2.2)
          (case s2 => exact (Kd.V_reads' ae.out).2.1)
          (case s3 => exact cO (Kd.V_reads' ak.out).2.2)
          (case s4 => exact (Kd.V_reads' ak.out).2.1)
          rintro e eH ⟨ex, rfl, ad, hb⟩; refine ⟨_, rfl, ?_⟩; replace z := aM (Kd.V_below (vO z.out) hb); replace ae := aM (Kd.V_below (vO ae.out) hb); replace ak := aM (Kd.V_below (vO ak.out) hb); have ar := aM (Kd.V_lower (Kd.V_mono (ok' := fun k_ => k_ ≠ Q ∧ k_ ≠ J) ad (fun k_ hk_ => ⟨(Kd.freshB (g := Q) (o := .cells #[.int .i64 M, .slice Z L.length aa, .slice (some aw) E.length ab, .int .i64 O, .int .i64 P] 26 (0, 0)) (kO A.out) k_ hk_), (Kd.freshB (g := J) (o := .cells #[.bool D, ac] 90 (0, 0)) (kO B.out) k_ hk_)⟩)) (below_size (bP2 HB G R))); replace A := kB A hb; replace B := kB B hb; replace HB := hS2 HB G R hb
          (try clear hb)
          (try clear bz)
          (try clear hk)
          (try clear hi)
          (try clear ad)
          obtain ⟨aZ, a6, bC⟩ := Kd.V_slice z.out
          (first | subst bC | (injection bC with ag ao ah; have ap := ag.symm; have aq := ah.symm; clear ag ao ah; subst ap; subst aq))
          obtain ⟨b5, b6, bD⟩ := Kd.V_slice ar.out
          (first | subst bD | (injection bD with ag ao ah; have ap := ag.symm; have aq := ah.symm; clear ag ao ah; subst ap; subst aq))
          refine hK.out _ _ ⟨(blk_cell B.out 0).trans rfl, (blk_cell B.out 1).trans rfl, ((HB.out.cell (World.block_lt_of_cell? w _ W)).trans W)⟩ (fun hHeld => ?_); clear hK K; refine nm_ 40 ?_; refine one_ (i := 9) (N := some 41) (bl 11 1023) rfl rfl (one_of HT_.out (by kernel_rfl)) (by decide) (fun K hK => ?_); refine gS_ Try.func42 #[.agg #[.bool D, .slice aZ F.length a6], .agg #[.bool aP, .slice b5 aQ.length b6]] ?_
          with_reducible refine (truth_whole_plus.calls k2 D _ _ F aP _ _ aQ aR aC _ ?s1 ?s2 ?s3 ?s4 eb.out).mono ?_
          (case s1 => exact cO (Kd.V_reads' z.out).2.2)
          (case s2 => exact (Kd.V_reads' z.out).2.1)
          (case s3 => exact cO (Kd.V_reads' ar.out).2.2)
          (case s4 => exact (Kd.V_reads' ar.out).2.1)
          rintro e bT ⟨ey, rfl, ad, hb⟩; refine ⟨_, rfl, ?_⟩; replace z := aM (Kd.V_below (vO z.out) hb); replace ae := aM (Kd.V_below (vO ae.out) hb); replace ak := aM (Kd.V_below (vO ak.out) hb); replace ar := aM (Kd.V_below (vO ar.out) hb); have bk := aM (Kd.V_lower (Kd.V_mono (ok' := fun k_ => k_ ≠ Q ∧ k_ ≠ J) ad (fun k_ hk_ => ⟨(Kd.freshB (g := Q) (o := .cells #[.int .i64 M, .slice Z L.length aa, .slice (some aw) E.length ab, .int .i64 O, .int .i64 P] 26 (0, 0)) (kO A.out) k_ hk_), (Kd.freshB (g := J) (o := .cells #[.bool D, .slice aZ F.length a6] 90 (0, 0)) (kO B.out) k_ hk_)⟩)) (below_size (bP2 HB G R))); replace A := kB A hb; replace B := kB B hb; replace HB := hS2 HB G R hb
          (try clear hb)
          (try clear bz)
          (try clear hk)
          (try clear hi)
          (try clear ad)
          obtain ⟨bE, bF, bG⟩ := Kd.V_slice bk.out
          (first | subst bG | (injection bG with ag ao ah; have ap := ag.symm; have aq := ah.symm; clear ag ao ah; subst ap; subst aq))
          refine hK.out _ _ ⟨(blk_cell B.out 0).trans rfl, (blk_cell B.out 1).trans rfl, ((HB.out.cell (World.block_lt_of_cell? w _ W)).trans W)⟩ (fun hHeld => ?_); clear hK K; refine nm_ 41 ?_; refine last_ (i := 10) (N := none) (bl 11 2047) rfl rfl (one_of HT_.out (by kernel_rfl)) (by decide) (fun K hK => ?_); have hs41 : bT.cell? ⟨J, 0, none⟩ = some (.bool D) := (blk_cell B.out 0).trans rfl; have hfs41 := blk_frozen B.out 0; have hns41_0 := U.out; have hms41_0 := Y.out; have hs43 : bT.cell? ⟨J, 1, none⟩ = some (.slice aZ F.length a6) := (blk_cell B.out 1).trans rfl; have hfs43 := blk_frozen B.out 1; have hns43_0 := U.out; have hms43_0 := Y.out; refine skip_ (w1 := ?_) (by rfl) rfl ?_ ?_; rotate_left
          ·go_simp
           rfl
          refine hK.out _ _ ?_; clear hK K; refine done_ (done_of HT_.out (by kernel_rfl)) ?_
          try go_wp2
          go_roundg k2
          case measure => have := HJ2.out; have := HK2.out; omega
          case rel => exact ⟨(wrap64 (I + 1)), (aR), (aC), (.slice bE aC.length bF), sI, H', ⟨by have := HJ2.out; have := HK2.out; omega⟩, ⟨by (with_reducible repeat (first | apply Kd.V_alloc | apply Kd.V_drewN | apply Kd.V_drew)); exact Kd.V_mono (Kd.V_far (p := ⟨J, 1, none⟩) (Kd.V_far (p := ⟨J, 0, none⟩) (Kd.V_mono bk.out (fun k_ hk => (⟨hk, hk.2⟩ : _ ∧ k_ ≠ J))) (fun _ hk => hk.2) (.bool aR)) (fun _ hk => hk.2) (.slice bE aC.length bF)) (fun _ hk => ⟨hk.1.1, hk.1.2⟩)⟩, ⟨kN A U⟩, ⟨by (with_reducible repeat (first | refine blk_drewN ?_ _ | refine blk_drew ?_ | refine blk_alloc ?_ _)); exact blk_put (blk_put B.out 0 _ rfl) 1 _ rfl⟩, bT2 HB G R⟩
         ·exact nX bj H
        ·exact nX bh H
       ·exact nX bg H
      ·rw [if_neg aF] at H; have bK := decide_eq_false aF; clear aF
       by_cases aS : M = 0
       ·rw [if_pos aS] at H; obtain ⟨bM, bN⟩ := bq aS; clear aS; replace H := Option.bind_eq_some_iff.mp H; obtain ⟨b7, bH, H⟩ := H; have ec := aM bH; clear bH; simp only [Option.some.injEq, Prod.mk.injEq] at H; obtain ⟨rfl, rfl⟩ := H; have em := U.out; have en := Y.out; obtain ⟨cU, cV, cW, cY, cZ, c0, c2, c3, c4, c5⟩ := bG5 A; obtain ⟨c7, c8, c9, da⟩ := bG2 B; obtain ⟨b8, b9, ca⟩ := Kd.V_slice z.out; subst ca
        go_wp2_with (first | ((with_reducible refine gate_callee (f := 44) rfl ?_); refine gL_ (some 48) Try.func44 #[.agg #[.bool D, .slice b8 F.length b9]] ?_; (with_reducible refine (truth_whole_sign.calls D _ _ F b7 _ ?s1 ?s2 ec.out).mono ?_); (case s1 => exact cO (Kd.V_reads' z.out).2.2); (case s2 => exact (Kd.V_reads' z.out).2.1); rintro e eI ⟨rfl, hb⟩; refine ⟨_, rfl, ?_⟩; replace z := aM (Kd.V_below (vO z.out) hb); replace A := kB A hb; replace B := kB B hb; replace HB := hS2 HB G R hb; (try clear hb)))
        go_ret2
        exact ⟨eW, bS2 HB.out G.out R.out⟩
       ·rw [if_neg aS] at H; obtain ⟨bM, bN⟩ := bn aS
        by_cases aT : M = 1
        ·rw [if_pos aT] at H; obtain ⟨bO, bP⟩ := bq aT; clear aT; replace H := Option.bind_eq_some_iff.mp H; obtain ⟨cb, bI, H⟩ := H; have ed := aM bI; clear bI; simp only [Option.some.injEq, Prod.mk.injEq] at H; obtain ⟨rfl, rfl⟩ := H; have eo := U.out; have ep := Y.out; obtain ⟨db, dc, dd, de, df, dg, dh, di, dj, dk⟩ := bG5 A; obtain ⟨dl, dm, dn, dp⟩ := bG2 B; obtain ⟨cc, cd, ce⟩ := Kd.V_slice z.out; subst ce
         go_wp2_with (first | ((with_reducible refine gate_callee (f := 44) rfl ?_); refine gL_ (some 53) Try.func44 #[.agg #[.bool D, .slice cc F.length cd]] ?_; (with_reducible refine (truth_whole_sign.calls D _ _ F cb _ ?s1 ?s2 ed.out).mono ?_); (case s1 => exact cO (Kd.V_reads' z.out).2.2); (case s2 => exact (Kd.V_reads' z.out).2.1); rintro e eJ ⟨rfl, hb⟩; refine ⟨_, rfl, ?_⟩; replace z := aM (Kd.V_below (vO z.out) hb); replace A := kB A hb; replace B := kB B hb; replace HB := hS2 HB G R hb; (try clear hb)))
         go_ret2
         exact ⟨eW, bS2 HB.out G.out R.out⟩
        ·rw [if_neg aT] at H; obtain ⟨bO, bP⟩ := bn aT; replace H := Option.bind_eq_some_iff.mp H; obtain ⟨cf, bJ, H⟩ := H; have ee := aM bJ; clear bJ; simp only [Option.some.injEq, Prod.mk.injEq] at H; obtain ⟨rfl, rfl⟩ := H; have er := U.out; have es := Y.out; obtain ⟨dq, dr, dt, du, dv, dw, dx, dy, dz, dA⟩ := bG5 A; obtain ⟨dB, dC, dD, dE⟩ := bG2 B; obtain ⟨cg, ch, ci⟩ := Kd.V_slice z.out; subst ci
         go_wp2_with (first | ((with_reducible refine gate_callee (f := 45) rfl ?_); refine gL_ (some 58) Try.func45 #[.agg #[.bool D, .slice cg F.length ch], .int .i64 P] ?_; (with_reducible refine (truth_whole_multiple.calls k2 D _ _ F P cf _ ?s1 ?s2 ee.out).mono ?_); (case s1 => exact cO (Kd.V_reads' z.out).2.2); (case s2 => exact (Kd.V_reads' z.out).2.1); rintro e eK ⟨rfl, hb⟩; refine ⟨_, rfl, ?_⟩; replace z := aM (Kd.V_below (vO z.out) hb); replace A := kB A hb; replace B := kB B hb; replace HB := hS2 HB G R hb; (try clear hb)))
         go_ret2
         exact ⟨eW, bS2 HB.out G.out R.out⟩

end Go.Proofs.Ythgoonohpfoagaa.X
namespace Go.Proofs.Ythgoonohpfoagaa.X
open Go.RowKit Go.Proofs.YthgoonohpfoagaaW.PrintWords Go.Proofs.YthgoonohpfoagaaW.PrintLast Go.Proofs.YthgoonohpfoagaaW.PrintMore
attribute [local go_sem] max2_int min2_int max_two min_two max_three min_three max_four min_four
set_option linter.unusedVariables false
set_option linter.unusedSimpArgs false
set_option maxHeartbeats 8000000
set_option maxRecDepth 100000

/-! ### tabardlaw14_AtomTakes: function 7 -/
mutual
def tabardlaw14_AtomTakes.j0 : Nat → List (List Int) → Bool → Int → List ByteArray → List Int → Int → Int → List ByteArray → List Bool → List (List Int) → Option (Bool)
 | 0, _, _, _, _, _, _, _, _, _, _ => none
 | k + 1, x1, x34, x511000, x511001, x511002, x511003, x511004, x532000, x532001, x532002 => if x34 = true then (none) else (tabardlaw14_AtomTakes.l0 k x1 (x1.length : Int) 0 x511000 x511001 x511002 x511003 x511004 x532000 x532001 x532002)
def tabardlaw14_AtomTakes.l0 : Nat → List (List Int) → Int → Int → Int → List ByteArray → List Int → Int → Int → List ByteArray → List Bool → List (List Int) → Option (Bool)
 | 0, _, _, _, _, _, _, _, _, _, _, _ => none
 | k + 1, x35, x36, x37, x511000, x511001, x511002, x511003, x511004, x532000, x532001, x532002 => if x37 < x36 then (if 0 ≤ x37 then (if x37 < (x35.length : Int) then ((some (([] : List Int) : List Int)).bind fun y535 => (if y535.length + (rd_L3 x35 x37).length < 17592186044416 then ((word_Decode.f k (y535 ++ (rd_L3 x35 x37)) (x511001.length : Int)).bind fun bt541 => (if bt541.2 = 0 then ((tabardlaw14_copied.f x511000 x511001 x511002 x511003 x511004).bind fun bt545 => ((truth_Normal.f k bt545.1 bt545.2.1 bt545.2.2.1 bt545.2.2.2.1 bt545.2.2.2.2 bt541.1).bind fun bt554 => (if bt554.2 = 0 then ((tabardref12_Takes.f k x532000 x532001 x532002 (rd_L3 x35 x37)).bind fun t556 => (if (t556 != bt554.1) = true then (none) else (tabardlaw14_AtomTakes.l0 k x35 x36 (wrap64 (x37 + 1)) x511000 x511001 x511002 x511003 x511004 x532000 x532001 x532002))) else (none)))) else (tabardlaw14_AtomTakes.l0 k x35 x36 (wrap64 (x37 + 1)) x511000 x511001 x511002 x511003 x511004 x532000 x532001 x532002))) else (none))) else (none)) else (none)) else (some true)
end
def tabardlaw14_AtomTakes.f (k : Nat) (a0_0 : Int) (l0_1 : List ByteArray) (l0_2 : List Int) (a0_3 : Int) (a0_4 : Int) (l1 : List (List Int)) : Option (Bool) := (tabardlaw14_fixed.f k).bind fun t511 => (if t511 = true then ((tabardlaw14_copied.f a0_0 l0_1 l0_2 a0_3 a0_4).bind fun bt512 => ((atom_Raw.f k bt512.1 bt512.2.1 bt512.2.2.1 bt512.2.2.2.1 bt512.2.2.2.2).bind fun bt521 => (if bt521.2.2.2 = 0 then ((tabardref12_Right.f k bt521.1 bt521.2.1 bt521.2.2.1).bind fun t532 => (if t532 = true then ((canon_Sound.f k bt521.1 bt521.2.1 bt521.2.2.1).bind fun t533 => (tabardlaw14_AtomTakes.j0 k l1 (!t533) a0_0 l0_1 l0_2 a0_3 a0_4 bt521.1 bt521.2.1 bt521.2.2.1)) else (tabardlaw14_AtomTakes.j0 k l1 true a0_0 l0_1 l0_2 a0_3 a0_4 bt521.1 bt521.2.1 bt521.2.2.1))) else (some ((bt521.2.1.length : Int) == 0))))) else (none))
theorem tabardlaw14_AtomTakes.mono_l : ∀ k, (∀ y0 y1 y2 y3 y4 y5 y6 y7 y8 y9, LeO (tabardlaw14_AtomTakes.j0 k y0 y1 y2 y3 y4 y5 y6 y7 y8 y9) (tabardlaw14_AtomTakes.j0 (k + 1) y0 y1 y2 y3 y4 y5 y6 y7 y8 y9)) ∧ (∀ y0 y1 y2 y3 y4 y5 y6 y7 y8 y9 y10, LeO (tabardlaw14_AtomTakes.l0 k y0 y1 y2 y3 y4 y5 y6 y7 y8 y9 y10) (tabardlaw14_AtomTakes.l0 (k + 1) y0 y1 y2 y3 y4 y5 y6 y7 y8 y9 y10))
 | 0 => ⟨fun _ _ _ _ _ _ _ _ _ _ r h => by simp [tabardlaw14_AtomTakes.j0] at h, fun _ _ _ _ _ _ _ _ _ _ _ r h => by simp [tabardlaw14_AtomTakes.l0] at h⟩
 | k + 1 => by
  obtain ⟨ih0, ih1⟩ := tabardlaw14_AtomTakes.mono_l k; refine ⟨?_, ?_⟩
  ·intro y0 y1 y2 y3 y4 y5 y6 y7 y8 y9
   unfold tabardlaw14_AtomTakes.j0
   repeat' first | (with_reducible first | exact ih0 _ _ _ _ _ _ _ _ _ _ | exact ih1 _ _ _ _ _ _ _ _ _ _ _ | exact atom_Raw.mono _ _ _ _ _ _ | exact canon_Sound.mono _ _ _ _ | exact tabardlaw14_fixed.mono _ | exact tabardref12_Right.mono _ _ _ _ | exact tabardref12_Takes.mono _ _ _ _ _ | exact truth_Normal.mono _ _ _ _ _ _ _ | exact word_Decode.mono _ _ _ | exact lA | apply lI | refine lB ?_ fun _ => ?_) | exact lN _ | apply lI | refine lB ?_ fun _ => ?_
  ·intro y0 y1 y2 y3 y4 y5 y6 y7 y8 y9 y10
   unfold tabardlaw14_AtomTakes.l0
   repeat' first | (with_reducible first | exact ih0 _ _ _ _ _ _ _ _ _ _ | exact ih1 _ _ _ _ _ _ _ _ _ _ _ | exact atom_Raw.mono _ _ _ _ _ _ | exact canon_Sound.mono _ _ _ _ | exact tabardlaw14_fixed.mono _ | exact tabardref12_Right.mono _ _ _ _ | exact tabardref12_Takes.mono _ _ _ _ _ | exact truth_Normal.mono _ _ _ _ _ _ _ | exact word_Decode.mono _ _ _ | exact lA | apply lI | refine lB ?_ fun _ => ?_) | exact lN _ | apply lI | refine lB ?_ fun _ => ?_
theorem tabardlaw14_AtomTakes.mono : ∀ a0 a1 a2 a3 a4 a5 k, LeO (tabardlaw14_AtomTakes.f k a0 a1 a2 a3 a4 a5) (tabardlaw14_AtomTakes.f (k + 1) a0 a1 a2 a3 a4 a5) := by
 intro a0 a1 a2 a3 a4 a5 k; obtain ⟨ih0, ih1⟩ := tabardlaw14_AtomTakes.mono_l k
 unfold tabardlaw14_AtomTakes.f
 repeat' first | (with_reducible first | exact ih0 _ _ _ _ _ _ _ _ _ _ | exact ih1 _ _ _ _ _ _ _ _ _ _ _ | exact atom_Raw.mono _ _ _ _ _ _ | exact canon_Sound.mono _ _ _ _ | exact tabardlaw14_fixed.mono _ | exact tabardref12_Right.mono _ _ _ _ | exact tabardref12_Takes.mono _ _ _ _ _ | exact truth_Normal.mono _ _ _ _ _ _ _ | exact word_Decode.mono _ _ _ | exact lA | apply lI | refine lB ?_ fun _ => ?_) | exact lN _ | apply lI | refine lB ?_ fun _ => ?_
def tabardlaw14_AtomTakes.T11 : Bool × List (List Nat × List Nat) := (true, [([], []), ([], []), ([0, 1], [0, 1]), ([], []), ([3], [3]), ([4], [4]), ([2, 5, 2], [2, 5]), ([6], [6]), ([7], [7]), ([7], [7]), ([8, 6, 0, 1, 2, 3, 4, 5, 6, 7, 8], [8]), ([9, 10, 0, 1, 2, 3, 4, 5, 6, 7, 8, 9, 10], [9])])
def tabardlaw14_AtomTakes.B11 : List Nat := [0, 0, 3, 0, 8, 24, 63, 127, 255, 255, 511, 2047]
theorem tabardlaw14_AtomTakes.tab11 : rtab .any (opsOf Try.f7 11) = tabardlaw14_AtomTakes.T11 := by kernel_rfl
theorem tabardlaw14_AtomTakes.bits11 : waitsOk tabardlaw14_AtomTakes.T11.2 tabardlaw14_AtomTakes.B11 = true := by kernel_rfl
theorem tabardlaw14_AtomTakes.calls (k : Nat) (Z : Int) (al : Option Addr) (am : Nat) (J : List ByteArray) (an : Option Addr) (ao : Nat) (Q : List Int) (aa : Int) (ab : Int) (A1 : Option Addr) (c1 : Nat) (l1 : List (List Int)) (r : Bool) (w : World) (bE : Kd.C Kd.string w al J.length J) (bF : J.length ≤ am) (bG : Kd.C (Kd.int .i64) w an Q.length Q) (bH : Q.length ≤ ao) (cd : Kd.C (Kd.slice 3 (Kd.int .i64)) w A1 l1.length l1) (ce : l1.length ≤ c1) (h : tabardlaw14_AtomTakes.f k Z J Q aa ab l1 = some r) :
  Calls Try.prog 7 #[.agg #[.int .i64 Z, .slice al J.length am, .slice an Q.length ao, .int .i64 aa, .int .i64 ab], .slice A1 l1.length c1] w fun e w' => e = .returned (.bool r) ∧ Below w.heap.size w w' := by
 have hu26 := Try.underlying26; have hu31 := Try.underlying31; have bd := aM bE; have be := aM bF; clear bE bF; have bf := aM bG; have bg := aM bH; clear bG bH; have cf := aM cd; have eP := aM ce; clear cd ce; have HB := aM (Below.refl w.heap.size w); rw [tabardlaw14_AtomTakes.f] at h; have H := h; clear h; replace H := Option.bind_eq_some_iff.mp H; obtain ⟨cm, cg, H⟩ := H; have A3 := aM cg; clear cg
 by_cases c4 : cm = true
 ·subst c4
  rw [if_pos rfl] at H; replace H := Option.bind_eq_some_iff.mp H; obtain ⟨⟨aE, aw, aG, aH, aI⟩, ch, H⟩ := H; replace H : ((atom_Raw.f k aE aw aG aH aI).bind fun ae => (if ae.2.2.2 = 0 then ((tabardref12_Right.f k ae.1 ae.2.1 ae.2.2.1).bind fun a7 => (if a7 = true then ((canon_Sound.f k ae.1 ae.2.1 ae.2.2.1).bind fun aQ => (tabardlaw14_AtomTakes.j0 k l1 (!aQ) Z J Q aa ab ae.1 ae.2.1 ae.2.2.1)) else (tabardlaw14_AtomTakes.j0 k l1 true Z J Q aa ab ae.1 ae.2.1 ae.2.2.1))) else (some ((ae.2.1.length : Int) == 0)))) = some r := H; have A5 := aM ch; clear ch; replace H := Option.bind_eq_some_iff.mp H; obtain ⟨⟨M, L, O, bh⟩, ci, H⟩ := H; replace H : (if bh = 0 then ((tabardref12_Right.f k M L O).bind fun a7 => (if a7 = true then ((canon_Sound.f k M L O).bind fun aQ => (tabardlaw14_AtomTakes.j0 k l1 (!aQ) Z J Q aa ab M L O)) else (tabardlaw14_AtomTakes.j0 k l1 true Z J Q aa ab M L O))) else (some ((L.length : Int) == 0))) = some r := H; have A6 := aM ci; clear ci
  by_cases c7 : bh = 0
  ·rw [if_pos c7] at H; obtain ⟨cn, co⟩ := bq c7; clear c7; have bS := aM H; clear H
   go_enter Try.func7, Try.ntmps7
   go_upto_region 6 with (first | ((with_reducible refine gate_dst (N := 2) rfl ?_); refine be_ (cs := #[.int .i64 Z, .slice al J.length am, .slice an Q.length ao, .int .i64 aa, .int .i64 ab]) (t := 26) ?_; intro ag hg w9 hbox hb; have z := aM (hbox); have b7 := gE hg (bP0 HB); have F := gE hg (bP0 HB); replace HB := hS0 HB hb; clear hb hbox hg) | ((with_reducible refine gate_callee (f := 11) rfl ?_); refine gL_ (some 13) Try.func11 #[] ?_; (with_reducible refine (tabardlaw14_fixed.calls k  true _ A3.out).mono ?_); rintro e eQ ⟨rfl, hb⟩; refine ⟨_, rfl, ?_⟩; replace z := kB z hb; replace HB := hS1 HB F hb; (try clear hb); obtain ⟨c5, c6, c8, c9, da, db, dc, dd, de, df⟩ := bG5 z) | ((with_reducible refine gate_callee (f := 8) rfl ?_); refine gL_ (some 17) Try.func8 #[.agg #[.int .i64 Z, .slice al J.length am, .slice an Q.length ao, .int .i64 aa, .int .i64 ab]] ?_; (with_reducible refine (tabardlaw14_copied.calls Z _ _ J _ _ Q aa ab aE aw aG aH aI _ ?s1 be.out ?s3 bg.out A5.out).mono ?_); (case s1 => exact cB bd HB); (case s3 => exact cB bf HB); rintro e eR ⟨cp, cq, rfl, af, ap, hb⟩; refine ⟨_, rfl, ?_⟩; have P := rW af (bP1 HB F); have U := rW ap (bP1 HB F); replace z := kB z hb; replace HB := hS1 HB F hb; (try clear hb); (try clear af); (try clear ap); obtain ⟨bz, bA, cr⟩ := sL P; subst cr; obtain ⟨ct, cu, cv⟩ := sL U; subst cv) | ((with_reducible refine gate_callee (f := 9) rfl ?_); refine gL_ (some 18) Try.func9 #[.agg #[.int .i64 aE, .slice bz aw.length bA, .slice ct aG.length cu, .int .i64 aH, .int .i64 aI]] ?_; (with_reducible refine (atom_Raw.calls k aE _ _ aw _ _ aG aH aI M L O bh _ ?s1 (rR P).2.1 ?s3 (rR U).2.1 A6.out).mono ?_); (case s1 => exact cO (rR P).2.2); (case s3 => exact cO (rR U).2.2); rintro e eS ⟨cw, cx, cy, rfl, af, ap, bu, hb⟩; refine ⟨_, rfl, ?_⟩; replace U := rB U hb; have V := rW (Kd.R_new' af (Kd.R_lt (rP P))) (bP1 HB F); replace P := aM (Kd.R_elder' (rP P) (Kd.R_base af) hb); have W := rW ap (bP1 HB F); have Y := aM (Kd.S_lower bu (below_size (bP1 HB F))); replace z := kB z hb; replace HB := hS1 HB F hb; (try clear hb); (try clear af); (try clear ap); (try clear bu)) | ((with_reducible refine gate_dst (N := 5) rfl ?_); refine be_ (cs := #[.slice none 0 0, .slice none 0 0, .slice none 0 0]) (t := 31) ?_; intro bi hg eT hbox hb; replace P := rB P hb; replace U := rB U hb; replace V := rB V hb; replace W := rB W hb; replace Y := aM (Kd.S_below (by (with_reducible repeat (first | apply Kd.S_alloc | apply Kd.S_drewN | apply Kd.S_drew)); exact Y.out) hb); have A := aM (hbox); have b8 := gE hg (bP1 HB F); have G := gE hg (bP1 HB F); replace HB := hS1 HB F hb; have ad := nL hg z; have aj := nG hg z; replace z := kB z hb; clear hb hbox hg; obtain ⟨aT, az, cz⟩ := sL V; subst cz; have ep := aj.out; have er := ad.out; obtain ⟨dg, dh, di, dj, dk, dl⟩ := bG3 A; obtain ⟨aU, aA, cA⟩ := sL W; subst cA; obtain ⟨aV, aC, cC⟩ := Kd.S_slice Y.out; subst cC))
   (try simp only [Act.put, sA, sB, sC])
   go_cut [34] (fun ei wc => ∃ (kq : Nat) (aY : Bool), ei = .bool aY ∧ Aside0 (tabardlaw14_AtomTakes.j0 kq l1 aY Z J Q aa ab M L O = some r) ∧ Aside0 (kq ≤ k) ∧ RA Kd.string 9 wc w (.slice aT M.length az) M ∧ RA Kd.bool 4 wc w (.slice aU L.length aA) L ∧ Aside0 (Kd.S (Kd.slice 3 (Kd.int .i64)) 42 wc w.heap.size (fun _ => True) (.slice aV O.length aC) O) ∧ Aside0 (wc.heap[ag]? = some (.cells #[.int .i64 Z, (.slice al J.length am), (.slice an Q.length ao), .int .i64 aa, .int .i64 ab] 26 (0, 0))) ∧ Aside0 (wc.heap[bi]? = some (.cells #[(.slice aT M.length az), (.slice aU L.length aA), (.slice aV O.length aC)] 31 (0, 0))) ∧ BA w wc)
   case first =>
    have H := bS.out; clear bS; replace H := Option.bind_eq_some_iff.mp H; obtain ⟨a7, bT, H⟩ := H; have cj := aM bT; clear bT
    by_cases bI : a7 = true
    ·subst bI
     rw [if_pos rfl] at H; replace H := Option.bind_eq_some_iff.mp H; obtain ⟨aQ, bU, H⟩ := H; have ej := aM bU; clear bU; have H' := aM H; clear H; have es := aj.out; have et := ad.out; obtain ⟨dm, dn, dp, dq, dr, dt⟩ := bG3 A
     go_wp2_with (first | ((with_reducible refine gate_callee (f := 16) rfl ?_); refine gL_ (some 28) Try.func16 #[.agg #[.slice aT M.length az, .slice aU L.length aA, .slice aV O.length aC]] ?_; (with_reducible refine (tabardref12_Right.calls k _ _ M _ _ L _ _ O true _ ?s1 (rR V).2.1 ?s3 (rR W).2.1 ?s5 ?s6 cj.out).mono ?_); (case s1 => refine (Kd.R_reads' (e := 9) (base := w.heap.size) (ok := fun k_ => (True ∧ some k_ ≠ (.slice bz aw.length bA : Value).ownBlock)) (n := M.length) (c := az) ?_).2.2; exact (rY V A)); (case s3 => refine (Kd.R_reads' (e := 4) (base := w.heap.size) (ok := fun k_ => True) (n := L.length) (c := aA) ?_).2.2; exact (rY W A)); (case s5 => refine (Kd.S_reads' (e := 42) (base := w.heap.size) (ok := fun k_ => True) (n := O.length) (c := aC) ?_).2.2; exact (sY Y A)); (case s6 => exact (Kd.S_reads' Y.out).2.1); rintro e eU ⟨rfl, hb⟩; refine ⟨_, rfl, ?_⟩; replace P := rX P A hb; replace U := rX U A hb; replace V := rX V A hb; replace W := rX W A hb; replace Y := sX Y A hb; replace z := kX1 z ad hb; replace A := kP3 A hb; replace HB := hS2 HB F G hb; (try clear hb); obtain ⟨du, dv, dw, dx, dy, dz⟩ := bG3 A) | (go_at_call 21; (with_reducible refine (canon_Sound.calls k _ _ M _ _ L _ _ O aQ _ ?s1 (rR V).2.1 ?s3 (rR W).2.1 ?s5 ?s6 ej.out).mono ?_); (case s1 => exact cO (rR V).2.2); (case s3 => exact cO (rR W).2.2); (case s5 => exact cO (Kd.S_reads' Y.out).2.2); (case s6 => exact (Kd.S_reads' Y.out).2.1); rintro e eV ⟨rfl, hb⟩; replace P := rB P hb; replace U := rB U hb; replace V := rB V hb; replace W := rB W hb; replace Y := aM (Kd.S_below (by (with_reducible repeat (first | apply Kd.S_alloc | apply Kd.S_drewN | apply Kd.S_drew)); exact Y.out) hb); replace z := kB z hb; replace A := kB A hb; replace HB := hS2 HB F G hb; (try clear hb)))
     go_meet
     case rel => exact ⟨_, (!aQ), sI, H', ⟨by first | omega | exact Nat.le_refl _⟩, ⟨rM V (fun _ hk => trivial)⟩, rQ W, ⟨by (with_reducible repeat (first | apply Kd.S_alloc | apply Kd.S_drewN | apply Kd.S_drew)); exact Y.out⟩, kQ z, kQ A, bT2 HB F G⟩
    ·replace bI := Bool.eq_false_iff.mpr bI; subst bI
     rw [if_neg nF] at H; have H' := aM H; clear H; have eu := aj.out; have ev := ad.out; obtain ⟨dA, dB, dC, dD, dE, dF⟩ := bG3 A
     go_wp2_with (first | ((with_reducible refine gate_callee (f := 16) rfl ?_); refine gL_ (some 28) Try.func16 #[.agg #[.slice aT M.length az, .slice aU L.length aA, .slice aV O.length aC]] ?_; (with_reducible refine (tabardref12_Right.calls k _ _ M _ _ L _ _ O false _ ?s1 (rR V).2.1 ?s3 (rR W).2.1 ?s5 ?s6 cj.out).mono ?_); (case s1 => refine (Kd.R_reads' (e := 9) (base := w.heap.size) (ok := fun k_ => (True ∧ some k_ ≠ (.slice bz aw.length bA : Value).ownBlock)) (n := M.length) (c := az) ?_).2.2; exact (rY V A)); (case s3 => refine (Kd.R_reads' (e := 4) (base := w.heap.size) (ok := fun k_ => True) (n := L.length) (c := aA) ?_).2.2; exact (rY W A)); (case s5 => refine (Kd.S_reads' (e := 42) (base := w.heap.size) (ok := fun k_ => True) (n := O.length) (c := aC) ?_).2.2; exact (sY Y A)); (case s6 => exact (Kd.S_reads' Y.out).2.1); rintro e eX ⟨rfl, hb⟩; refine ⟨_, rfl, ?_⟩; replace P := rX P A hb; replace U := rX U A hb; replace V := rX V A hb; replace W := rX W A hb; replace Y := sX Y A hb; replace z := kX1 z ad hb; replace A := kP3 A hb; replace HB := hS2 HB F G hb; (try clear hb)))
     go_meet
     case rel => exact ⟨_, (true), sI, H', ⟨by first | omega | exact Nat.le_refl _⟩, ⟨rM V (fun _ hk => trivial)⟩, rQ W, ⟨by (with_reducible repeat (first | apply Kd.S_alloc | apply Kd.S_drewN | apply Kd.S_drew)); exact Y.out⟩, kQ z, kQ A, bT2 HB F G⟩
   case rest =>
    clear bS
    obtain ⟨kq, aY, rfl, HA, HJ7, B, D, E, z, A, HB⟩ := hcut; cases kq with
    | zero => exact absurd HA.out (by simp [tabardlaw14_AtomTakes.j0])
    | succ ck =>
     have H := HA.out; clear HA; simp only [tabardlaw14_AtomTakes.j0] at H
     by_cases bJ : aY = true
     ·subst bJ
      rw [if_pos rfl] at H; exact absurd H (by simp)
     ·replace bJ := Bool.eq_false_iff.mpr bJ; subst bJ
      rw [if_neg nF] at H; have H' := aM H; clear H
      go_wp2
      go_loopg [37] ck (fun kq ek w' => ∃ (I : Int), ek = .int .i64 I ∧ Aside0 (tabardlaw14_AtomTakes.l0 kq l1 (l1.length : Int) I Z J Q aa ab M L O = some r) ∧ Aside0 (kq ≤ ck) ∧ RA Kd.string 9 w' w (.slice aT M.length az) M ∧ RA Kd.bool 4 w' w (.slice aU L.length aA) L ∧ Aside0 (Kd.S (Kd.slice 3 (Kd.int .i64)) 42 w' w.heap.size (fun _ => True) (.slice aV O.length aC) O) ∧ Aside0 (w'.heap[ag]? = some (.cells #[.int .i64 Z, (.slice al J.length am), (.slice an Q.length ao), .int .i64 aa, .int .i64 ab] 26 (0, 0))) ∧ Aside0 (w'.heap[bi]? = some (.cells #[(.slice aT M.length az), (.slice aU L.length aA), (.slice aV O.length aC)] 31 (0, 0))) ∧ BA w w')
      case atStart => exact ⟨(0), sI, H', ⟨Nat.le_refl _⟩, rQ B, rQ D, ⟨by (with_reducible repeat (first | apply Kd.S_alloc | apply Kd.S_drewN | apply Kd.S_drew)); exact E.out⟩, kQ z, kQ A, bT2 HB F G⟩
      case round =>
       clear H'
       obtain ⟨I, rfl, HA, HK2, B, D, E, z, A, HB⟩ := hrel; cases gk with
       | zero => exact absurd HA.out (by simp [tabardlaw14_AtomTakes.l0])
       | succ k2 =>
        have H := HA.out; clear HA; simp only [tabardlaw14_AtomTakes.l0] at H
        by_cases ba : I < (l1.length : Int)
        ·rw [if_pos ba] at H; have b9 := dT ba; clear ba
         by_cases bK : 0 ≤ I
         ·rw [if_pos bK] at H; have ew := dT bK; clear bK
          by_cases bL : I < (l1.length : Int)
          ·rw [if_pos bL] at H; have ex := dT bL; clear bL; obtain ⟨bj, aZ⟩ : ∃ y_ : List Int, y_ = (([] : List Int)) := ⟨_, rfl⟩
           first | replace H := rI aZ H | rw [← aZ] at H
           have bM := aM aZ; clear aZ
           by_cases bN : bj.length + (rd_L3 l1 I).length < 17592186044416
           ·rw [if_pos bN] at H; have bO := aM bN; clear bN; obtain ⟨bk, a6⟩ : ∃ y_ : List Int, y_ = (bj ++ (rd_L3 l1 I)) := ⟨_, rfl⟩
            first | replace H := rI a6 H | rw [← a6] at H
            have bP := aM a6; clear a6; replace H := Option.bind_eq_some_iff.mp H; obtain ⟨⟨aW, bm⟩, bV, H⟩ := H; replace H : (if bm = 0 then ((tabardlaw14_copied.f Z J Q aa ab).bind fun aN => ((truth_Normal.f k2 aN.1 aN.2.1 aN.2.2.1 aN.2.2.2.1 aN.2.2.2.2 aW).bind fun aP => (if aP.2 = 0 then ((tabardref12_Takes.f k2 M L O (rd_L3 l1 I)).bind fun aq => (if (aq != aP.1) = true then (none) else (tabardlaw14_AtomTakes.l0 k2 l1 (l1.length : Int) (wrap64 (I + 1)) Z J Q aa ab M L O))) else (none)))) else (tabardlaw14_AtomTakes.l0 k2 l1 (l1.length : Int) (wrap64 (I + 1)) Z J Q aa ab M L O)) = some r := H; have cl := aM bV; clear bV
            by_cases bv : bm = 0
            ·rw [if_pos bv] at H; obtain ⟨ca, cb⟩ := bq bv; clear bv; replace H := Option.bind_eq_some_iff.mp H; obtain ⟨⟨bo, bp, br, bs, bt⟩, bW, H⟩ := H; replace H : ((truth_Normal.f k2 bo bp br bs bt aW).bind fun aP => (if aP.2 = 0 then ((tabardref12_Takes.f k2 M L O (rd_L3 l1 I)).bind fun aq => (if (aq != aP.1) = true then (none) else (tabardlaw14_AtomTakes.l0 k2 l1 (l1.length : Int) (wrap64 (I + 1)) Z J Q aa ab M L O))) else (none))) = some r := H; have el := aM bW; clear bW; replace H := Option.bind_eq_some_iff.mp H; obtain ⟨⟨aX, bB⟩, bX, H⟩ := H; replace H : (if bB = 0 then ((tabardref12_Takes.f k2 M L O (rd_L3 l1 I)).bind fun aq => (if (aq != aX) = true then (none) else (tabardlaw14_AtomTakes.l0 k2 l1 (l1.length : Int) (wrap64 (I + 1)) Z J Q aa ab M L O))) else (none)) = some r := H; have em := aM bX; clear bX
             by_cases bQ : bB = 0
             ·rw [if_pos bQ] at H; obtain ⟨ey, ez⟩ := bq bQ; clear bQ; replace H := Option.bind_eq_some_iff.mp H; obtain ⟨aq, bY, H⟩ := H; have en := aM bY; clear bY
              by_cases bb : (aq != aX) = true
              ·rw [if_pos bb] at H; exact absurd H (by simp)
              ·rw [if_neg bb] at H
               have eA : (aq != aX) = false := by simpa using bb
               (try (have eB : decide (aq = aX) = true := by simpa using bb))
               (try (have eC : (aq == aX) = true := by simpa using bb))
               clear bb; have H' := aM H; clear H; have aJ : 0 ≤ (I : Int) := oT aO; have aK : I < (l1.length : Int) := oT aO; obtain ⟨cc, bZ, b0, bC, ar, au, av⟩ := at_L3 cf.out I aJ aK; cases bC; replace ar := cX HB ar; have aD := aM av; have bc := aM au; clear av au; replace aJ := eq_true aJ; replace aK := eq_true aK
               try go_wp2
               replace B := aM (Kd.R_drew B.out); replace D := aM (Kd.R_drew D.out); replace E := aM (Kd.S_drew E.out); replace z := kD z; replace A := kD A; replace HB := aM (below_drew1 HB.out); refine start_ (n := 12) (S := fun w' => w'.cell? ⟨ag, 0, none⟩ = some (.int .i64 Z) ∧ w'.cell? ⟨ag, 1, none⟩ = some (.slice al J.length am) ∧ w'.cell? ⟨ag, 2, none⟩ = some (.slice an Q.length ao) ∧ w'.cell? ⟨ag, 3, none⟩ = some (.int .i64 aa) ∧ w'.cell? ⟨ag, 4, none⟩ = some (.int .i64 ab)) (ds := []) (bl 12 0) (by kernel_rfl) rfl rfl ⟨(blk_cell z.out 0).trans rfl, (blk_cell z.out 1).trans rfl, (blk_cell z.out 2).trans rfl, (blk_cell z.out 3).trans rfl, (blk_cell z.out 4).trans rfl⟩ (fun hHeld => ?_); refine with_tabW tabardlaw14_AtomTakes.tab11 tabardlaw14_AtomTakes.bits11 (fun HT_ HW_ => ?_); generalize wr.drew = eY at B D E z A HB hHeld ⊢; refine pu_ 1 43 (bl 12 2) HT_ ?_; refine pu_ 3 45 (bl 12 10) HT_ ?_; refine tk5_ 4 46 (bl 12 26) HT_ HW_ hHeld ?_; refine pu_ 5 47 (bl 12 58) HT_ ?_; refine one_ (i := 0) (N := some 42) (bl 12 59) rfl rfl (one_of HT_.out (by kernel_rfl)) (by decide) (fun K hK => ?_); refine lt_ (Kd.int .i64) 3 42 ([] : List Int) [] (Reps.none _ _) ?_; intro bD eZ a8 hb
               replace a8 := nW bM a8
               replace B := rB B hb; replace D := rB D hb; replace E := aM (Kd.S_elder' (by (with_reducible repeat (first | apply Kd.S_alloc | apply Kd.S_drewN | apply Kd.S_drew)); exact E.out) (Kd.R_base a8) hb); have ah := rW a8 (bP2 HB F G); replace z := kB z hb; replace A := kB A hb; replace HB := hS2 HB F G hb; clear hb a8; refine hK.out _ _ ⟨(blk_cell z.out 0).trans rfl, (blk_cell z.out 1).trans rfl, (blk_cell z.out 2).trans rfl, (blk_cell z.out 3).trans rfl, (blk_cell z.out 4).trans rfl⟩ (fun hHeld => ?_); clear hK K; refine nm_ 42 ?_; refine one_ (i := 2) (N := some 44) (bl 12 63) rfl rfl (one_of HT_.out (by kernel_rfl)) (by decide) (fun K hK => ?_); refine Kd.R_append_rows_step (Kd.int .i64) (w0 := w) w.heap.size (by rfl) (.tmp 42) (.tmp 43) 42 3 (.int .i64 0) 8 rfl Try.underlying42 info3 rfl (by decide) (by omega) bD bj (rd_L3 l1 I) _ _ _ (fun _ => True) (fun _ => False) rfl rfl ?aO ?aR (fun _ _ h => h) (fun _ h => h.elim) ?aF ?aB ?aS ?aL ?_
               (case aR => exact cO (Kd.C_below aD.out HB.out))
               (case aB => exact (bP2 HB F G))
               (case aF => exact (fun _ _ => trivial))
               (case aO => exact (rP ah))
               (case aS => exact (below_size (bP2 HB F G)))
               (case aL => have := bO.out; omega)
               intro cD e0 ho hb hg hat; rw [← bP.out] at ho; replace B := aM (Kd.R_over' (rP B) (Kd.R_typed (rP ah)) (by decide) hg); replace D := aM (Kd.R_over' (rP D) (Kd.R_typed (rP ah)) (by decide) hg); replace E := aM (Kd.S_after (ok := (fun _ => True)) (by (with_reducible repeat (first | apply Kd.S_alloc | apply Kd.S_drewN | apply Kd.S_drew)); exact E.out) hg hat); replace z := kG z hg ah; replace A := kG A hg ah; replace HB := aM (hb); have ac := aM (ho); clear ah; clear ho hb hg hat; obtain ⟨cE, cF, b1⟩ := sL ac
               (first | subst b1 | (injection b1 with bw b2 bx; have b3 := bw.symm; have b4 := bx.symm; clear bw b2 bx; subst b3; subst b4))
               refine hK.out _ _ ⟨(blk_cell z.out 0).trans rfl, (blk_cell z.out 1).trans rfl, (blk_cell z.out 2).trans rfl, (blk_cell z.out 3).trans rfl, (blk_cell z.out 4).trans rfl⟩ (fun hHeld => ?_); clear hK K; refine nm_ 44 ?_; refine one_ (i := 6) (N := some 48) (bl 12 127) rfl rfl (one_of HT_.out (by kernel_rfl)) (by decide) (fun K hK => ?_); refine gS_ Try.func22 #[.slice cE bk.length cF, .int .i64 (J.length : Int)] ?_
               with_reducible refine (word_Decode.calls k2 _ _ bk (J.length : Int) aW bm _ ?s1 ?s2 cl.out).mono ?_
               (case s1 => exact cO (rR ac).2.2)
               (case s2 => exact (rR ac).2.1)
               rintro e e1 ⟨cG, rfl, af, hb⟩; refine ⟨_, rfl, ?_⟩; replace B := rB B hb; replace D := rB D hb; replace E := aM (Kd.S_below (by (with_reducible repeat (first | apply Kd.S_alloc | apply Kd.S_drewN | apply Kd.S_drew)); exact E.out) hb); replace ac := rB ac hb; have ak := rW af (bP2 HB F G); replace z := kB z hb; replace A := kB A hb; replace HB := hS2 HB F G hb
               (try clear hb)
               (try clear eo)
               (try clear hk)
               (try clear hi)
               (try clear af)
               refine hK.out _ _ ⟨(blk_cell z.out 0).trans rfl, (blk_cell z.out 1).trans rfl, (blk_cell z.out 2).trans rfl, (blk_cell z.out 3).trans rfl, (blk_cell z.out 4).trans rfl⟩ (fun hHeld => ?_); clear hK K; refine nm_ 48 ?_; refine pu_ 7 41 (bl 12 255) HT_ ?_; refine pu_ 8 49 (bl 12 511) HT_ ?_; refine pu_ 9 50 (bl 12 1023) HT_ ?_; refine pu_ 10 9 (bl 12 2047) HT_ ?_; refine pu_ 11 10 (bl 12 4095) HT_ ?_; refine done_ (done_of HT_.out (by kernel_rfl)) ?_; have eD := ad.out; have eE := aj.out; obtain ⟨dG, dH, dI, dJ, dK, dL, dM, dN, dO, dP⟩ := bG5 z
               try go_wp2_with (first | ((with_reducible refine gate_callee (f := 8) rfl ?_); refine gL_ (some 55) Try.func8 #[.agg #[.int .i64 Z, .slice al J.length am, .slice an Q.length ao, .int .i64 aa, .int .i64 ab]] ?_; (with_reducible refine (tabardlaw14_copied.calls Z _ _ J _ _ Q aa ab bo bp br bs bt _ ?s1 be.out ?s3 bg.out el.out).mono ?_); (case s1 => exact cB bd HB); (case s3 => exact cB bf HB); rintro e e2 ⟨eH, eI, rfl, af, ap, hb⟩; refine ⟨_, rfl, ?_⟩; replace D := rB D hb; replace E := aM (Kd.S_below (by (with_reducible repeat (first | apply Kd.S_alloc | apply Kd.S_drewN | apply Kd.S_drew)); exact E.out) hb); replace ac := rB ac hb; have ax := rW (Kd.R_new' af (Kd.R_lt (rP B))) (bP2 HB F G); replace B := aM (Kd.R_elder' (rP B) (Kd.R_base af) hb); have ay := rW (Kd.R_new' ap (Kd.R_lt (rP ak))) (bP2 HB F G); replace ak := aM (Kd.R_elder' (rP ak) (Kd.R_base ap) hb); replace z := kB z hb; replace A := kB A hb; replace HB := hS2 HB F G hb; (try clear hb); (try clear af); (try clear ap); obtain ⟨cH, cI, cJ⟩ := sL ax; subst cJ; obtain ⟨cK, cL, cM⟩ := sL ay; subst cM; obtain ⟨cN, cP, cQ⟩ := sL ak; subst cQ) | ((with_reducible refine gate_callee (f := 23) rfl ?_); refine gL_ (some 57) Try.func23 #[.agg #[.int .i64 bo, .slice cH bp.length cI, .slice cK br.length cL, .int .i64 bs, .int .i64 bt], .slice cN aW.length cP] ?_; (with_reducible refine (truth_Normal.calls k2 bo _ _ bp _ _ br bs bt _ _ aW aX bB _ ?s1 (rR ax).2.1 ?s3 (rR ay).2.1 ?s5 (rR ak).2.1 em.out).mono ?_); (case s1 => exact cO (rR ax).2.2); (case s3 => exact cO (rR ay).2.2); (case s5 => exact cO (rR ak).2.2); rintro e e3 ⟨rfl, hb⟩; refine ⟨_, rfl, ?_⟩; replace B := rB B hb; replace D := rB D hb; replace E := aM (Kd.S_below (by (with_reducible repeat (first | apply Kd.S_alloc | apply Kd.S_drewN | apply Kd.S_drew)); exact E.out) hb); replace ac := rB ac hb; replace ak := rB ak hb; replace ax := rB ax hb; replace ay := rB ay hb; replace z := kB z hb; replace A := kB A hb; replace HB := hS2 HB F G hb; (try clear hb); obtain ⟨dQ, dR, dS, dU, dV, dW⟩ := bG3 A) | (go_at_call 18; (with_reducible refine (tabardref12_Takes.calls k2 _ _ M _ _ L _ _ O _ _ (rd_L3 l1 I) aq _ ?s1 (rR B).2.1 ?s3 (rR D).2.1 ?s5 ?s6 ?s7 bc.out en.out).mono ?_); (case s1 => exact cO (rR B).2.2); (case s3 => exact cO (rR D).2.2); (case s5 => exact cO (Kd.S_reads' E.out).2.2); (case s6 => exact (Kd.S_reads' E.out).2.1); (case s7 => exact cB aD HB); rintro e e4 ⟨rfl, hb⟩; replace B := rB B hb; replace D := rB D hb; replace E := aM (Kd.S_below (by (with_reducible repeat (first | apply Kd.S_alloc | apply Kd.S_drewN | apply Kd.S_drew)); exact E.out) hb); replace ac := rB ac hb; replace ak := rB ak hb; replace ax := rB ax hb; replace ay := rB ay hb; replace z := kB z hb; replace A := kB A hb; replace HB := hS2 HB F G hb; (try clear hb)))
               go_roundg k2
               case measure => have := HJ7.out; have := HK2.out; omega
               case rel => exact ⟨(wrap64 (I + 1)), sI, H', ⟨by have := HJ7.out; have := HK2.out; omega⟩, ⟨rM B (fun _ hk => trivial)⟩, rQ D, ⟨by (with_reducible repeat (first | apply Kd.S_alloc | apply Kd.S_drewN | apply Kd.S_drew)); exact Kd.S_mono E.out (fun _ hk => trivial)⟩, kQ z, kQ A, bT2 HB F G⟩
             ·exact nX bQ H
            ·rw [if_neg bv] at H; obtain ⟨ca, cb⟩ := bn bv; have H' := aM H; clear H; have aJ : 0 ≤ (I : Int) := oT aO; have aK : I < (l1.length : Int) := oT aO; obtain ⟨cc, bZ, b0, bC, ar, au, av⟩ := at_L3 cf.out I aJ aK; cases bC; replace ar := cX HB ar; have aD := aM av; have bc := aM au; clear av au; replace aJ := eq_true aJ; replace aK := eq_true aK
             try go_wp2
             replace B := aM (Kd.R_drew B.out); replace D := aM (Kd.R_drew D.out); replace E := aM (Kd.S_drew E.out); replace z := kD z; replace A := kD A; replace HB := aM (below_drew1 HB.out); refine start_ (n := 12) (S := fun w' => w'.cell? ⟨ag, 0, none⟩ = some (.int .i64 Z) ∧ w'.cell? ⟨ag, 1, none⟩ = some (.slice al J.length am) ∧ w'.cell? ⟨ag, 2, none⟩ = some (.slice an Q.length ao) ∧ w'.cell? ⟨ag, 3, none⟩ = some (.int .i64 aa) ∧ w'.cell? ⟨ag, 4, none⟩ = some (.int .i64 ab)) (ds := []) (bl 12 0) (by kernel_rfl) rfl rfl ⟨(blk_cell z.out 0).trans rfl, (blk_cell z.out 1).trans rfl, (blk_cell z.out 2).trans rfl, (blk_cell z.out 3).trans rfl, (blk_cell z.out 4).trans rfl⟩ (fun hHeld => ?_); refine with_tabW tabardlaw14_AtomTakes.tab11 tabardlaw14_AtomTakes.bits11 (fun HT_ HW_ => ?_); generalize wr.drew = e5 at B D E z A HB hHeld ⊢; refine pu_ 1 43 (bl 12 2) HT_ ?_; refine pu_ 3 45 (bl 12 10) HT_ ?_; refine tk5_ 4 46 (bl 12 26) HT_ HW_ hHeld ?_; refine pu_ 5 47 (bl 12 58) HT_ ?_; refine one_ (i := 0) (N := some 42) (bl 12 59) rfl rfl (one_of HT_.out (by kernel_rfl)) (by decide) (fun K hK => ?_); refine lt_ (Kd.int .i64) 3 42 ([] : List Int) [] (Reps.none _ _) ?_; intro bD e6 a9 hb
             replace a9 := nW bM a9
             replace B := rB B hb; replace D := rB D hb; replace E := aM (Kd.S_elder' (by (with_reducible repeat (first | apply Kd.S_alloc | apply Kd.S_drewN | apply Kd.S_drew)); exact E.out) (Kd.R_base a9) hb); have ah := rW a9 (bP2 HB F G); replace z := kB z hb; replace A := kB A hb; replace HB := hS2 HB F G hb; clear hb a9; refine hK.out _ _ ⟨(blk_cell z.out 0).trans rfl, (blk_cell z.out 1).trans rfl, (blk_cell z.out 2).trans rfl, (blk_cell z.out 3).trans rfl, (blk_cell z.out 4).trans rfl⟩ (fun hHeld => ?_); clear hK K; refine nm_ 42 ?_; refine one_ (i := 2) (N := some 44) (bl 12 63) rfl rfl (one_of HT_.out (by kernel_rfl)) (by decide) (fun K hK => ?_); refine Kd.R_append_rows_step (Kd.int .i64) (w0 := w) w.heap.size (by rfl) (.tmp 42) (.tmp 43) 42 3 (.int .i64 0) 8 rfl Try.underlying42 info3 rfl (by decide) (by omega) bD bj (rd_L3 l1 I) _ _ _ (fun _ => True) (fun _ => False) rfl rfl ?aO ?aR (fun _ _ h => h) (fun _ h => h.elim) ?aF ?aB ?aS ?aL ?_
             (case aR => exact cO (Kd.C_below aD.out HB.out))
             (case aB => exact (bP2 HB F G))
             (case aF => exact (fun _ _ => trivial))
             (case aO => exact (rP ah))
             (case aS => exact (below_size (bP2 HB F G)))
             (case aL => have := bO.out; omega)
             intro cD e7 ho hb hg hat; rw [← bP.out] at ho; replace B := aM (Kd.R_over' (rP B) (Kd.R_typed (rP ah)) (by decide) hg); replace D := aM (Kd.R_over' (rP D) (Kd.R_typed (rP ah)) (by decide) hg); replace E := aM (Kd.S_after (ok := (fun _ => True)) (by (with_reducible repeat (first | apply Kd.S_alloc | apply Kd.S_drewN | apply Kd.S_drew)); exact E.out) hg hat); replace z := kG z hg ah; replace A := kG A hg ah; replace HB := aM (hb); have ac := aM (ho); clear ah; clear ho hb hg hat; obtain ⟨cR, cS, b5⟩ := sL ac
             (first | subst b5 | (injection b5 with bw b2 bx; have b3 := bw.symm; have b4 := bx.symm; clear bw b2 bx; subst b3; subst b4))
             refine hK.out _ _ ⟨(blk_cell z.out 0).trans rfl, (blk_cell z.out 1).trans rfl, (blk_cell z.out 2).trans rfl, (blk_cell z.out 3).trans rfl, (blk_cell z.out 4).trans rfl⟩ (fun hHeld => ?_); clear hK K; refine nm_ 44 ?_; refine one_ (i := 6) (N := some 48) (bl 12 127) rfl rfl (one_of HT_.out (by kernel_rfl)) (by decide) (fun K hK => ?_); refine gS_ Try.func22 #[.slice cR bk.length cS, .int .i64 (J.length : Int)] ?_
             with_reducible refine (word_Decode.calls k2 _ _ bk (J.length : Int) aW bm _ ?s1 ?s2 cl.out).mono ?_
             (case s1 => exact cO (rR ac).2.2)
             (case s2 => exact (rR ac).2.1)
             rintro e e8 ⟨cG, rfl, af, hb⟩; refine ⟨_, rfl, ?_⟩; replace B := rB B hb; replace D := rB D hb; replace E := aM (Kd.S_below (by (with_reducible repeat (first | apply Kd.S_alloc | apply Kd.S_drewN | apply Kd.S_drew)); exact E.out) hb); replace ac := rB ac hb; have ak := rW af (bP2 HB F G); replace z := kB z hb; replace A := kB A hb; replace HB := hS2 HB F G hb
             (try clear hb)
             (try clear eo)
             (try clear hk)
             (try clear hi)
             (try clear af)
             refine hK.out _ _ ⟨(blk_cell z.out 0).trans rfl, (blk_cell z.out 1).trans rfl, (blk_cell z.out 2).trans rfl, (blk_cell z.out 3).trans rfl, (blk_cell z.out 4).trans rfl⟩ (fun hHeld => ?_); clear hK K; refine nm_ 48 ?_; refine pu_ 7 41 (bl 12 255) HT_ ?_; refine pu_ 8 49 (bl 12 511) HT_ ?_; refine pu_ 9 50 (bl 12 1023) HT_ ?_; refine pu_ 10 9 (bl 12 2047) HT_ ?_; refine pu_ 11 10 (bl 12 4095) HT_ ?_; refine done_ (done_of HT_.out (by kernel_rfl)) ?_
             try go_wp2
             go_roundg k2
             case measure => have := HJ7.out; have := HK2.out; omega
             case rel => exact ⟨(wrap64 (I + 1)), sI, H', ⟨by have := HJ7.out; have := HK2.out; omega⟩, rQ B, rQ D, ⟨by (with_reducible repeat (first | apply Kd.S_alloc | apply Kd.S_drewN | apply Kd.S_drew)); exact Kd.S_mono E.out (fun _ hk => trivial)⟩, kQ z, kQ A, bT2 HB F G⟩
           ·exact nX bN H
          ·exact nX bL H
         ·exact nX bK H
        ·rw [if_neg ba] at H; have b9 := decide_eq_false ba; clear ba; obtain rfl := Option.some.inj H
         go_wp2
         go_ret
         exact ⟨eW, bS2 HB.out F.out G.out⟩
  ·rw [if_neg c7] at H; obtain ⟨cn, co⟩ := bn c7; obtain rfl := Option.some.inj H
   go_enter Try.func7, Try.ntmps7
   go_wp2_with (first | ((with_reducible refine gate_dst (N := 2) rfl ?_); refine be_ (cs := #[.int .i64 Z, .slice al J.length am, .slice an Q.length ao, .int .i64 aa, .int .i64 ab]) (t := 26) ?_; intro ag hg e9 hbox hb; have z := aM (hbox); have b7 := gE hg (bP0 HB); have F := gE hg (bP0 HB); replace HB := hS0 HB hb; clear hb hbox hg) | ((with_reducible refine gate_callee (f := 11) rfl ?_); refine gL_ (some 13) Try.func11 #[] ?_; (with_reducible refine (tabardlaw14_fixed.calls k  true _ A3.out).mono ?_); rintro e fa ⟨rfl, hb⟩; refine ⟨_, rfl, ?_⟩; replace z := kB z hb; replace HB := hS1 HB F hb; (try clear hb); obtain ⟨dX, dY, dZ, d0, d1, d2, d3, d4, d5, d6⟩ := bG5 z) | ((with_reducible refine gate_callee (f := 8) rfl ?_); refine gL_ (some 17) Try.func8 #[.agg #[.int .i64 Z, .slice al J.length am, .slice an Q.length ao, .int .i64 aa, .int .i64 ab]] ?_; (with_reducible refine (tabardlaw14_copied.calls Z _ _ J _ _ Q aa ab aE aw aG aH aI _ ?s1 be.out ?s3 bg.out A5.out).mono ?_); (case s1 => exact cB bd HB); (case s3 => exact cB bf HB); rintro e fb ⟨cp, cq, rfl, af, ap, hb⟩; refine ⟨_, rfl, ?_⟩; have P := rW af (bP1 HB F); have U := rW ap (bP1 HB F); replace z := kB z hb; replace HB := hS1 HB F hb; (try clear hb); (try clear af); (try clear ap); obtain ⟨cT, cU, cV⟩ := sL P; subst cV; obtain ⟨cW, cY, cZ⟩ := sL U; subst cZ) | ((with_reducible refine gate_callee (f := 9) rfl ?_); refine gL_ (some 18) Try.func9 #[.agg #[.int .i64 aE, .slice cT aw.length cU, .slice cW aG.length cY, .int .i64 aH, .int .i64 aI]] ?_; (with_reducible refine (atom_Raw.calls k aE _ _ aw _ _ aG aH aI M L O bh _ ?s1 (rR P).2.1 ?s3 (rR U).2.1 A6.out).mono ?_); (case s1 => exact cO (rR P).2.2); (case s3 => exact cO (rR U).2.2); rintro e fc ⟨cw, cx, cy, rfl, af, ap, bu, hb⟩; refine ⟨_, rfl, ?_⟩; replace U := rB U hb; have V := rW (Kd.R_new' af (Kd.R_lt (rP P))) (bP1 HB F); replace P := aM (Kd.R_elder' (rP P) (Kd.R_base af) hb); have W := rW ap (bP1 HB F); have Y := aM (Kd.S_lower bu (below_size (bP1 HB F))); replace z := kB z hb; replace HB := hS1 HB F hb; (try clear hb); (try clear af); (try clear ap); (try clear bu)) | ((with_reducible refine gate_dst (N := 5) rfl ?_); refine be_ (cs := #[.slice none 0 0, .slice none 0 0, .slice none 0 0]) (t := 31) ?_; intro bi hg fd hbox hb; replace P := rB P hb; replace U := rB U hb; replace V := rB V hb; replace W := rB W hb; replace Y := aM (Kd.S_below (by (with_reducible repeat (first | apply Kd.S_alloc | apply Kd.S_drewN | apply Kd.S_drew)); exact Y.out) hb); have A := aM (hbox); have b8 := gE hg (bP1 HB F); have G := gE hg (bP1 HB F); replace HB := hS1 HB F hb; have ad := nL hg z; have aj := nG hg z; replace z := kB z hb; clear hb hbox hg; obtain ⟨eJ, eK, c0⟩ := sL V; subst c0; have eF := aj.out; have eG := ad.out; obtain ⟨d7, d8, d9, ea, eb, ec⟩ := bG3 A; obtain ⟨eL, eM, c2⟩ := sL W; subst c2; obtain ⟨eN, eO, c3⟩ := Kd.S_slice Y.out; subst c3))
   go_ret
   exact ⟨eW, bS2 HB.out F.out G.out⟩
 ·replace c4 := Bool.eq_false_iff.mpr c4; subst c4
  rw [if_neg nF] at H; exact absurd H (by simp)

end Go.Proofs.Ythgoonohpfoagaa.X
